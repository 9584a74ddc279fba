/- Package frames' stacks: Local, SetLocal, Go. -/
import Derived.Deep.DeepMust
import Derived.Test.YtbbgkelcdooabaaFraA
namespace Go.Proofs.Ytbbgkelcdooabaa.G
open Go.RowKit Go.Proofs.YtbbgkelcdooabaaW.PrintWords Go.Proofs.YtbbgkelcdooabaaW.PrintLast Go.Proofs.YtbbgkelcdooabaaW.PrintMore
set_option linter.unusedVariables false
set_option linter.unusedSimpArgs false
theorem fr_zero {w0 w : World} {L : List As} {p : Nat} {s : FS} (hS : SB w0 w (FO p s :: L)) (hf : s.fr = []) : w.cell? ⟨p, 257, none⟩ = some (.int .i64 0) := by
  obtain ⟨v, z, hz, hk, h1⟩ := hS.open_
  have hb := h1.blk
  have hzl : z.length = 0 := by have := congrArg List.length hz; rw [hf] at this; simpa using this
  rw [fsC_b _ _ _ hb 257 (by omega)]; unfold cellAt; rw [hzl]; rfl
theorem frLocal0 (p : Nat) (i : Int) (w : World) (h : w.cell? ⟨p, 257, none⟩ = some (.int .i64 0)) :
    Calls Try.prog 37 #[.pointer (some ⟨p, 0, none⟩), .int .i64 i] w fun e w' => e = .returned (.pointer none) ∧ Drawn0 w w' := by
  go_enter Try.func37, Try.ntmps37
  go_wp2_with (go_at_call 34; (with_reducible refine (frTop0 p _ h).mono ?_); rintro e w' ⟨rfl, ⟨nd, rfl⟩⟩)
  go_ret
  exact ⟨rfl, drawn_n _ _⟩
theorem frLocalNo (p n : Nat) (A : Option Addr) (m c : Nat) (i : Int) (w : World) (hn : n < 64) (h : w.cell? ⟨p, 257, none⟩ = some (.int .i64 ((n + 1 : Nat) : Int))) (h2 : w.cell? ⟨p, 1 + n * 4 + 2, none⟩ = some (.slice A m c)) (hi : i < 0 ∨ (m : Int) ≤ i) :
    Calls Try.prog 37 #[.pointer (some ⟨p, 0, none⟩), .int .i64 i] w fun e w' => e = .returned (.pointer none) ∧ Drawn0 w w' := by
  by_cases c1 : i < 0
  · have d1 : decide (i < 0) = true := decide_eq_true c1
    clear hi c1
    go_enter Try.func37, Try.ntmps37
    go_wp2_with (go_at_call 34; (with_reducible refine (frTop p n _ hn h).mono ?_); rintro e w' ⟨rfl, ⟨nd, rfl⟩⟩)
    go_ret
    exact ⟨rfl, drawn_n _ _⟩
  · have d1 : decide (i < 0) = false := decide_eq_false c1
    have d2 : decide ((m : Int) ≤ i) = true := decide_eq_true (hi.resolve_left c1)
    clear hi c1
    go_enter Try.func37, Try.ntmps37
    go_wp2_with (go_at_call 34; (with_reducible refine (frTop p n _ hn h).mono ?_); rintro e w' ⟨rfl, ⟨nd, rfl⟩⟩)
    go_ret
    exact ⟨rfl, drawn_n _ _⟩
theorem frLocalAt (p n : Nat) (ad : Addr) (m c : Nat) (i : Nat) (w : World) (hn : n < 64) (h : w.cell? ⟨p, 257, none⟩ = some (.int .i64 ((n + 1 : Nat) : Int))) (h2 : w.cell? ⟨p, 1 + n * 4 + 2, none⟩ = some (.slice (some ad) m c)) (hi : i < m) :
    Calls Try.prog 37 #[.pointer (some ⟨p, 0, none⟩), .int .i64 (i : Int)] w fun e w' => e = .returned (.pointer (some (ad.add i))) ∧ Drawn0 w w' := by
  have d1 : decide ((i : Int) < 0) = false := decide_eq_false (by omega)
  have d2 : decide ((m : Int) ≤ (i : Int)) = false := decide_eq_false (by omega)
  have d3 : decide (m ≤ i) = false := decide_eq_false (by omega)
  go_enter Try.func37, Try.ntmps37
  go_wp2_with (go_at_call 34; (with_reducible refine (frTop p n _ hn h).mono ?_); rintro e w' ⟨rfl, ⟨nd, rfl⟩⟩)
  go_ret
  exact ⟨rfl, drawn_n _ _⟩
/-- Is there such a local? -/
def hasL (s : FS) (i : Int) : Prop := ∃ fr0 x, s.fr = fr0 ++ [x] ∧ 0 ≤ i ∧ i < (x.loc.length : Int)
theorem frLocalNone {w0 w : World} {L : List As} {p : Nat} {s : FS} (hS : SB w0 w (FO p s :: L)) (i : Int) (hn : ¬ hasL s i) :
    Calls Try.prog 37 #[.pointer (some ⟨p, 0, none⟩), .int .i64 i] w fun e w' => e = .returned (.pointer none) ∧ Drawn0 w w' := by
  rcases List.eq_nil_or_concat s.fr with hf | ⟨fr0, x, hf⟩
  · exact frLocal0 p i w (fr_zero hS hf)
  · rw [List.concat_eq_append] at hf
    obtain ⟨h64, h257, A, c, _, _, h2, _, _, _⟩ := frTopCells hS hf
    exact frLocalNo p _ A _ c i w h64 h257 h2 (by
      by_cases h0 : i < 0
      · exact .inl h0
      · exact .inr (by
          by_cases h1 : i < (x.loc.length : Int)
          · exact absurd ⟨fr0, x, hf, by omega, h1⟩ hn
          · omega))
theorem frGetNo {w0 w : World} {L : List As} {p : Nat} {s : FS} (hS : SB w0 w (FO p s :: L)) (i : Int) (hn : ¬ hasL s i) :
    Calls Try.prog 18 #[.pointer (some ⟨p, 0, none⟩), .int .i64 i] w fun e w' => e = .returned (.tuple #[.int .u64 0, .bool false]) ∧ SB w0 w' (FO p s :: L) := by
  have hc := Aside0.mk (frLocalNone hS i hn)
  have HS := Aside0.mk hS
  clear hS hn
  go_enter Try.func18, Try.ntmps18
  go_wp2_with (go_at_call 37; go_must ((with_reducible refine (hc.out).mono ?_)); rintro e w' ⟨rfl, ⟨nd, rfl⟩⟩)
  go_ret2
  exact ⟨rfl, HS.out.drewN _⟩
theorem frSetNo {w0 w : World} {L : List As} {p : Nat} {s : FS} (hS : SB w0 w (FO p s :: L)) (i u : Int) (hn : ¬ hasL s i) :
    Calls Try.prog 17 #[.pointer (some ⟨p, 0, none⟩), .int .i64 i, .int .u64 u] w fun e w' => e = .returned (.bool false) ∧ SB w0 w' (FO p s :: L) := by
  have hc := Aside0.mk (frLocalNone hS i hn)
  have HS := Aside0.mk hS
  clear hS hn
  go_enter Try.func17, Try.ntmps17
  go_wp2_with (go_at_call 37; go_must ((with_reducible refine (hc.out).mono ?_)); rintro e w' ⟨rfl, ⟨nd, rfl⟩⟩)
  go_ret
  exact ⟨rfl, HS.out.drewN _⟩
theorem frGetOk {w0 w : World} {L : List As} {p : Nat} {s : FS} (hS : SB w0 w (FO p s :: L)) {fr0 : List Fm} {x : Fm} (hx : s.fr = fr0 ++ [x]) (i : Nat) (hi : i < x.loc.length) :
    Calls Try.prog 18 #[.pointer (some ⟨p, 0, none⟩), .int .i64 (i : Int)] w fun e w' => e = .returned (.tuple #[.int .u64 x.loc[i], .bool true]) ∧ SB w0 w' (FO p s :: L) := by
  obtain ⟨h64, h257, g, c, h2, hcell, hfro, _⟩ := frTopLoc hS hx i hi
  have had : (⟨g, 0, none⟩ : Addr).add i = ⟨g, i, none⟩ := by unfold Addr.add; split <;> simp_all
  have h := frLocalAt p fr0.length ⟨g, 0, none⟩ x.loc.length c i w h64 h257 h2 hi
  rw [had] at h
  have hc := Aside0.mk h
  have HS := Aside0.mk hS
  obtain ⟨y, hy⟩ : ∃ y, x.loc[i] = y := ⟨_, rfl⟩
  rw [hy] at hcell ⊢
  clear hS hx h had h2 h257 hy
  go_enter Try.func18, Try.ntmps18
  go_wp2_with (go_at_call 37; go_must ((with_reducible refine (hc.out).mono ?_)); rintro e w' ⟨rfl, ⟨nd, rfl⟩⟩)
  go_ret2
  exact ⟨rfl, HS.out.drewN _⟩
theorem frSetOk {w0 w : World} {L : List As} {p : Nat} {s : FS} (hS : SB w0 w (FO p s :: L)) {fr0 : List Fm} {x : Fm} (hx : s.fr = fr0 ++ [x]) (i : Nat) (hi : i < x.loc.length) (u : Int) :
    Calls Try.prog 17 #[.pointer (some ⟨p, 0, none⟩), .int .i64 (i : Int), .int .u64 u] w fun e w' => e = .returned (.bool true) ∧ SB w0 w' (FO p { s with fr := fr0 ++ [{ x with loc := x.loc.set i u }] } :: L) := by
  obtain ⟨h64, h257, g, c, h2, hcell, hfro, hset⟩ := frTopLoc hS hx i hi
  have had : (⟨g, 0, none⟩ : Addr).add i = ⟨g, i, none⟩ := by unfold Addr.add; split <;> simp_all
  have h := frLocalAt p fr0.length ⟨g, 0, none⟩ x.loc.length c i w h64 h257 h2 hi
  rw [had] at h
  have hc := Aside0.mk h
  have HS := Aside0.mk (fun nd => by
    obtain ⟨_, _, g', c', h2', _, _, hset'⟩ := frTopLoc (hS.drewN nd) hx i hi
    have e : some (Value.slice (some ⟨g', 0, none⟩) x.loc.length c') = some (.slice (some ⟨g, 0, none⟩) x.loc.length c) := by rw [← h2', ← h2]; rfl
    injection e with e
    injection e with e
    injection e with e
    injection e with e
    subst e
    exact hset' u : ∀ nd, SB w0 ((w.drewN nd).setCell ⟨g, i, none⟩ (.int .u64 u)) (FO p { s with fr := fr0 ++ [{ x with loc := x.loc.set i u }] } :: L))
  clear hS hx h had h2 h257 hset
  go_enter Try.func17, Try.ntmps17
  go_wp2_with (go_at_call 37; go_must ((with_reducible refine (hc.out).mono ?_)); rintro e w' ⟨rfl, ⟨nd, rfl⟩⟩)
  go_ret
  exact ⟨rfl, HS.out _⟩
theorem frGoNo {w0 w : World} {L : List As} {p : Nat} {s : FS} (hS : SB w0 w (FO p s :: L)) (pc : Int) (hf : s.fr = []) :
    Calls Try.prog 39 #[.pointer (some ⟨p, 0, none⟩), .int .i64 pc] w fun e w' => e = .returned (.bool false) ∧ SB w0 w' (FO p s :: L) := by
  have h := fr_zero hS hf
  have HS := Aside0.mk hS
  clear hS hf
  go_enter Try.func39, Try.ntmps39
  go_wp2_with (go_at_call 34; (with_reducible refine (frTop0 p _ h).mono ?_); rintro e w' ⟨rfl, ⟨nd, rfl⟩⟩)
  go_ret
  exact ⟨rfl, HS.out.drewN _⟩
theorem frGoOk {w0 w : World} {L : List As} {p : Nat} {s : FS} (hS : SB w0 w (FO p s :: L)) {fr0 : List Fm} {x : Fm} (hx : s.fr = fr0 ++ [x]) (pc : Int) :
    Calls Try.prog 39 #[.pointer (some ⟨p, 0, none⟩), .int .i64 pc] w fun e w' => e = .returned (.bool true) ∧ SB w0 w' (FO p { s with fr := fr0 ++ [{ x with pc := pc }] } :: L) := by
  obtain ⟨h64, h257, A, c, _, h1, _, _, _, _⟩ := frTopCells hS hx
  obtain ⟨v, z, hz, hk, hO⟩ := hS.open_
  have hb := hO.blk
  have hfro := blk_frozen hb (1 + fr0.length * 4 + 1)
  obtain ⟨z0, y, rfl⟩ : ∃ z0 y, z = z0 ++ [y] := by
    rcases List.eq_nil_or_concat z with h | ⟨z0, y, h⟩
    · rw [h, hx] at hz; simp at hz
    · exact ⟨z0, y, by rw [h, List.concat_eq_append]⟩
  rw [List.map_append, hx] at hz
  obtain ⟨hz1, hz2⟩ := List.append_inj' hz rfl
  have hl0 : z0.length = fr0.length := by rw [← hz1]; simp
  have hy : y.1 = x := by simpa using hz2
  have HO := Aside0.mk hO
  have HX := Aside0.mk hx
  have HK := Aside0.mk hk
  clear hO hb hS hx hk hz
  go_enter Try.func39, Try.ntmps39
  go_wp2_with (go_at_call 34; (with_reducible refine (frTop p _ _ h64 h257).mono ?_); rintro e w' ⟨rfl, ⟨nd, rfl⟩⟩)
  go_ret
  refine ⟨rfl, ?_⟩
  have h2 := (HO.out.drewN nd).set1 (1 + fr0.length * 4 + 1) (.int .i64 pc)
  rw [fsC_pc v z0 s.room y fr0.length hl0 h64 pc, rowsOf_push, ← rowsOf_push z0 ({ y.1 with pc := pc }, y.2)] at h2
  have hkk := HK.out
  have hxx := HX.out
  refine SB.close_ (s := { s with fr := fr0 ++ [{ x with pc := pc }] }) (by rw [List.map_append, hz1, ← hy]; rfl) ⟨hkk.room0, hkk.room, by have := hkk.len; rw [hxx] at this; simpa using this, fun f hf => ?_⟩ h2
  rcases List.mem_append.1 hf with hf | hf
  · exact hkk.base f (by rw [hxx]; exact List.mem_append_left _ hf)
  · rw [List.mem_singleton.1 hf]
    exact hkk.base x (by rw [hxx]; simp)
end Go.Proofs.Ytbbgkelcdooabaa.G
/- Package frames' stacks: Cut. -/
namespace Go.Proofs.Ytbbgkelcdooabaa.G
open Go.RowKit Go.Proofs.YtbbgkelcdooabaaW.PrintWords Go.Proofs.YtbbgkelcdooabaaW.PrintLast Go.Proofs.YtbbgkelcdooabaaW.PrintMore
set_option linter.unusedVariables false
set_option linter.unusedSimpArgs false
theorem calls_q {P : Program} {f : FuncId} {args : Array Value} {w : World} {v : Value} (h : Calls P f args w fun e w' => e = .returned v ∧ Drawn0 w w') : Calls P f args w fun e w' => e = .returned v ∧ ∃ m, w' = w.drewN m :=
  h.mono fun _ _ h => ⟨h.1, drawn_ex h.2⟩
theorem frCutNo {w0 w : World} {L : List As} {p : Nat} {s : FS} (hS : SB w0 w (FO p s :: L)) (hl : s.v.length ≤ 1000000) (h a : Int) (hh : -9223372036854775808 ≤ h ∧ h < 9223372036854775808) (hq : s.fr = [] ∨ h < 0 ∨ a < 0 ∨ ¬ hasN s h ∨ (s.v.length : Int) - baseOf s.fr - h < a) :
    Calls Try.prog 38 #[.pointer (some ⟨p, 0, none⟩), .int .i64 h, .int .i64 a] w fun e w' => e = .returned (.bool false) ∧ SB w0 w' (FO p s :: L) := by
  by_cases hf : s.fr = []
  · have h0 := fr_zero hS hf
    have q34 := Aside0.mk (fun nd => calls_q (frTop0 p (w.drewN nd) h0))
    have HS := Aside0.mk hS
    clear hq hf hS h0
    go_enter Try.func38, Try.ntmps38
    go_wp2
    go_quiet ((go_at_call 34; with_reducible exact Calls.quiet_of (q34.out _)))
    go_wp2
    go_ret
    exact ⟨rfl, HS.out.drewN _⟩
  obtain ⟨n, hn⟩ : ∃ n, s.fr.length = n + 1 := ⟨s.fr.length - 1, by have := List.length_pos_iff.2 hf; omega⟩
  obtain ⟨h64, hc⟩ := fr_top hS n hn
  have q34 := Aside0.mk (fun nd => calls_q (frTop p n (w.drewN nd) h64 hc))
  obtain ⟨v, z, hz, hk, h1⟩ := hS.open_
  have hb := h1.blk
  obtain ⟨A0, c0, rfl, hc0, _⟩ := h1.swap.reads
  have s0 : w.cell? ⟨p, 0, none⟩ = some (.slice A0 s.v.length c0) := fsC_b _ _ _ hb 0 (by omega)
  have hat := AtB_of hb hz hk
  have hbo := baseOf_ok hk
  have q35 := Aside0.mk (fun nd => calls_q (frBase p _ (baseOf s.fr) (w.drewN nd) (hat.drewN nd)))
  have q32 := Aside0.mk (fun nd => calls_q (frHasS (hS.drewN nd) hl h))
  have HS := Aside0.mk hS
  by_cases c1 : h < 0
  · have d1 : decide (h < 0) = true := decide_eq_true c1
    clear hq hf hS hb hat hz hk h1 s0 c1 hn hc
    go_enter Try.func38, Try.ntmps38
    go_wp2
    go_quiet ((go_at_call 34; with_reducible exact Calls.quiet_of (q34.out _)))
    go_wp2
    go_ret
    exact ⟨rfl, HS.out.drewN _⟩
  have d1 : decide (h < 0) = false := decide_eq_false c1
  by_cases c2 : a < 0
  · have d2 : decide (a < 0) = true := decide_eq_true c2
    clear hq hf hS hb hat hz hk h1 s0 c1 c2 hn hc
    go_enter Try.func38, Try.ntmps38
    go_wp2
    go_quiet ((go_at_call 34; with_reducible exact Calls.quiet_of (q34.out _)))
    go_wp2
    go_ret
    exact ⟨rfl, HS.out.drewN _⟩
  have d2 : decide (a < 0) = false := decide_eq_false c2
  by_cases c3 : hasN s h
  · have d3 : decide (hasN s h) = true := decide_eq_true c3
    rw [d3] at q32
    have hw1 : IntKind.i64.wrap ((s.v.length : Int) - baseOf s.fr) = (s.v.length : Int) - baseOf s.fr := by rw [IntKind.wrap_i64]; omega
    have hw2 : IntKind.i64.wrap ((s.v.length : Int) - baseOf s.fr - h) = (s.v.length : Int) - baseOf s.fr - h := by rw [IntKind.wrap_i64]; have := c3.2; omega
    have hq5 : (s.v.length : Int) - baseOf s.fr - h < a := by
      rcases hq with hq | hq | hq | hq | hq
      · exact absurd hq hf
      · exact absurd hq c1
      · exact absurd hq c2
      · exact absurd c3 hq
      · exact hq
    have d4 : decide ((s.v.length : Int) - baseOf s.fr - h < a) = true := decide_eq_true hq5
    clear hq hf hS hb hat hz hk h1 c1 c2 hn hc c3 hq5
    go_enter Try.func38, Try.ntmps38
    go_wp2
    go_quiet ((first | (go_at_call 34; with_reducible exact Calls.quiet_of (q34.out _)) | (go_at_call 32; with_reducible exact Calls.quiet_of (q32.out _)) | (go_at_call 35; with_reducible exact Calls.quiet_of (q35.out _))))
    go_wp2
    go_ret
    exact ⟨rfl, HS.out.drewN _⟩
  · have d3 : decide (hasN s h) = false := decide_eq_false c3
    rw [d3] at q32
    clear hq hf hS hb hat hz hk h1 s0 c1 c2 hn hc c3
    go_enter Try.func38, Try.ntmps38
    go_wp2
    go_quiet ((first | (go_at_call 34; with_reducible exact Calls.quiet_of (q34.out _)) | (go_at_call 32; with_reducible exact Calls.quiet_of (q32.out _))))
    go_wp2
    go_ret
    exact ⟨rfl, HS.out.drewN _⟩
theorem frCutOk {w0 w : World} {L : List As} {p : Nat} {s : FS} (hS : SB w0 w (FO p s :: L)) (hl : s.v.length ≤ 1000000) (h c : Nat) (hf : s.fr ≠ []) (hq : hasN s h) (hq2 : (c : Int) ≤ (s.v.length : Int) - baseOf s.fr - h) :
    Calls Try.prog 38 #[.pointer (some ⟨p, 0, none⟩), .int .i64 (h : Int), .int .i64 (c : Int)] w fun e w' => e = .returned (.bool true) ∧
      SB w0 w' (FO p { s with v := s.v.take (baseOf s.fr + h).toNat ++ s.v.drop (s.v.length - c) } :: L) := by
  obtain ⟨n, hn⟩ : ∃ n, s.fr.length = n + 1 := ⟨s.fr.length - 1, by have := List.length_pos_iff.2 hf; omega⟩
  obtain ⟨h64, hc⟩ := fr_top hS n hn
  have q34 := Aside0.mk (fun nd => calls_q (frTop p n (w.drewN nd) h64 hc))
  have hqc : hasN s c := ⟨by omega, by omega⟩
  have HT := Aside0.mk (fun nd => frTakeOk (hS.drewN nd) hl c hqc)
  obtain ⟨v', z', hz', hk, h1'⟩ := hS.open_
  have hb' := h1'.blk
  obtain ⟨A0', c0', rfl, hc0', _⟩ := h1'.swap.reads
  have s0 : w.cell? ⟨p, 0, none⟩ = some (.slice A0' s.v.length c0') := fsC_b _ _ _ hb' 0 (by omega)
  have hat := AtB_of hb' hz' hk
  have q35 := Aside0.mk (fun nd => calls_q (frBase p _ (baseOf s.fr) (w.drewN nd) (hat.drewN nd)))
  have q32 := Aside0.mk (fun nd => calls_q (frHasS (hS.drewN nd) hl h))
  rw [decide_eq_true hq] at q32
  obtain ⟨b, hb⟩ := Int.eq_ofNat_of_zero_le (baseOf_ok hk).1
  obtain ⟨m, hm⟩ : ∃ m, s.v.length - c = m := ⟨_, rfl⟩
  have hbm : b + h ≤ m := by omega
  have hml : m ≤ s.v.length := by omega
  rw [hm] at HT ⊢
  obtain ⟨bh, hbe⟩ : ∃ bh, b + h = bh := ⟨_, rfl⟩
  have hbh : (baseOf s.fr + (h : Int)).toNat = bh := by omega
  rw [hbh]
  have hw1 : IntKind.i64.wrap ((s.v.length : Int) - baseOf s.fr) = (s.v.length : Int) - baseOf s.fr := by rw [IntKind.wrap_i64]; omega
  have hw2 : IntKind.i64.wrap ((s.v.length : Int) - baseOf s.fr - h) = (s.v.length : Int) - baseOf s.fr - h := by rw [IntKind.wrap_i64]; omega
  have d1 : decide ((h : Int) < 0) = false := decide_eq_false (by omega)
  have d2 : decide ((c : Int) < 0) = false := decide_eq_false (by omega)
  have d4 : decide ((s.v.length : Int) - baseOf s.fr - h < (c : Int)) = false := decide_eq_false (by omega)
  have hw3 : IntKind.i64.wrap ((b : Int) + (h : Int)) = (bh : Int) := by rw [IntKind.wrap_i64]; omega
  have HK := Aside0.mk hk
  have HN := Aside0.mk hn
  have HB := Aside0.mk hb
  clear hS hq hq2 hf hn hk hm hqc hbh hat h1' hb' hz' hb
  go_enter Try.func38, Try.ntmps38
  go_wp2
  go_quiet ((first | (go_at_call 34; with_reducible exact Calls.quiet_of (q34.out _)) | (go_at_call 32; with_reducible exact Calls.quiet_of (q32.out _)) | (go_at_call 35; with_reducible exact Calls.quiet_of (q35.out _))))
  clear hw1 hw2 d4 s0 q34 q32 q35
  go_wp2_with (go_at_call 33; go_must ((with_reducible refine (HT.out _).mono ?_); rintro e w3 ⟨vL, rfl, hs⟩; have HT3 := Aside0.mk hs; clear hs))
  obtain ⟨v, z, hz, hk, h1⟩ := HT3.out.swap.open_
  obtain ⟨A0, c0, rfl, hc0, _⟩ := h1.swap.reads
  have hvl : (s.v.take m).length = m := by simp; omega
  have hzl : z.length = n + 1 := by have := congrArg List.length hz; have := HN.out; simp at *; omega
  simp only [hvl] at h1 hc0
  have h1 := h1.drew
  obtain ⟨AL, cL, rfl, hcL, _⟩ := (h1.pick4 [3]).reads
  obtain ⟨xsL, hxsL⟩ : ∃ xs, s.v.drop m = xs := ⟨_, rfl⟩
  rw [hxsL] at h1 hcL ⊢
  have hxl : xsL.length ≤ 1000000 := by rw [← hxsL]; simp; omega
  have hcut := cut22 A0 m c0 bh (by omega) hc0
  have HDF := Aside0.mk h1
  have HXL := Aside0.mk hxsL
  clear h1 HT3 hxsL
  refine rg_startL (n := 15) (S := fun w' => True) (bm 15 0) (by kernel_rfl) rfl (by kernel_rfl) (trivial) (fun wd hwd hHeld => ?_)
  refine rg_take (i := 0) (N := some 46) (v := ?_) (a' := ?_) (bm 15 1) rfl rfl (by kernel_rfl) (fun _ _ _ h => h) hHeld (Or.inl ⟨by rfl, ?_⟩) ?_ ?_
  rotate_left
  · intro w' hw'
    have hw3' := hw3
    go_simp
    with_reducible rfl
  rotate_left
  · simp only [Act.put, List.setIfInBounds_toArray, List.set_cons_zero, List.set_cons_succ]
    rfl
  refine rg_take (i := 1) (N := some 47) (v := ?_) (a' := ?_) (bm 15 3) rfl rfl (by kernel_rfl) (fun _ _ _ h => h) hHeld (Or.inl ⟨by rfl, ?_⟩) ?_ ?_
  rotate_left
  · intro w' hw'
    have hw3' := hw3
    go_simp
    with_reducible rfl
  rotate_left
  · simp only [Act.put, List.setIfInBounds_toArray, List.set_cons_zero, List.set_cons_succ]
    rfl
  refine rg_take (i := 2) (N := some 48) (v := ?_) (a' := ?_) (bm 15 7) rfl rfl (by kernel_rfl) (fun _ _ _ h => h) hHeld (Or.inl ⟨by rfl, ?_⟩) ?_ ?_
  rotate_left
  · intro w' hw'
    have hw3' := hw3
    go_simp
    with_reducible rfl
  rotate_left
  · simp only [Act.put, List.setIfInBounds_toArray, List.set_cons_zero, List.set_cons_succ]
    rfl
  refine rg_take (i := 3) (N := some 49) (v := ?_) (a' := ?_) (bm 15 15) rfl rfl (by kernel_rfl) (fun _ _ _ h => h) hHeld (Or.inl ⟨by rfl, ?_⟩) ?_ ?_
  rotate_left
  · intro w' hw'
    have hw3' := hw3
    go_simp
    with_reducible rfl
  rotate_left
  · simp only [Act.put, List.setIfInBounds_toArray, List.set_cons_zero, List.set_cons_succ]
    rfl
  refine rg_take (i := 5) (N := some 51) (v := ?_) (a' := ?_) (bm 15 47) rfl rfl (by kernel_rfl) (fun _ _ _ h => h) hHeld (Or.inl ⟨by rfl, ?_⟩) ?_ ?_
  rotate_left
  · intro w' hw'
    have hw3' := hw3
    go_simp
    with_reducible rfl
  rotate_left
  · simp only [Act.put, List.setIfInBounds_toArray, List.set_cons_zero, List.set_cons_succ]
    rfl
  refine rg_take (i := 7) (N := some 53) (v := ?_) (a' := ?_) (bm 15 175) rfl rfl (by kernel_rfl) (fun _ _ _ h => h) hHeld (Or.inl ⟨by rfl, ?_⟩) ?_ ?_
  rotate_left
  · intro w' hw'
    have hw3' := hw3
    go_simp
    with_reducible rfl
  rotate_left
  · simp only [Act.put, List.setIfInBounds_toArray, List.set_cons_zero, List.set_cons_succ]
    rfl
  refine rg_take (i := 10) (N := some 56) (v := ?_) (a' := ?_) (bm 15 1199) rfl rfl (by kernel_rfl) (fun _ _ _ h => h) hHeld (Or.inl ⟨by rfl, ?_⟩) ?_ ?_
  rotate_left
  · intro w' hw'
    have hw3' := hw3
    go_simp
    with_reducible rfl
  rotate_left
  · simp only [Act.put, List.setIfInBounds_toArray, List.set_cons_zero, List.set_cons_succ]
    rfl
  refine rg_ready [4, 6] (by kernel_rfl) (by simp) ?_
  refine rg_one (i := 4) (N := some 50) (bm 15 1215) rfl rfl (by kernel_rfl) (fun K hK => ?_) ?_
  · skip
    have HD := Aside0.mk (hwd.out ▸ HDF.out)
    have s0 : wd.cell? ⟨p, 0, none⟩ = some (.slice A0 m c0) := fsC_b _ _ _ HD.out.blk 0 (by omega)
    refine value_ (w1 := ?_) (v := ?_) (by rfl) rfl ?_ ?_
    rotate_left 2
    · go_simp
      constructor
      · rfl
      · rfl
    have hnew : True := trivial
    refine hK.out _ _ hnew ?_
    clear hK K
    refine rg_norm (a' := ?_) ?_ ?_
    rotate_left
    · simp only [Act.put, List.setIfInBounds_toArray, List.set_cons_zero, List.set_cons_succ]
      rfl
    clear hHeld
    have hHeld := hnew
    clear hnew
    refine rg_ready [6] (by kernel_rfl) (by simp) ?_
    refine rg_one (i := 6) (N := some 52) (bm 15 1279) rfl rfl (by kernel_rfl) (fun K hK => ?_) rg_nil
    have HD := Aside0.mk (hwd.out ▸ HDF.out)
    have ha := AtB_of (s := s) HD.out.blk hz HK.out
    rw [HB.out] at ha
    go_simp
    go_at_call 35
    with_reducible refine (frBase p _ (b : Int) _ ha).mono ?_
    rintro e wx4x6r4 ⟨rfl, ⟨nd6, rfl⟩⟩
    have HD6 := Aside0.mk (HD.out.drewN nd6)
    have hnew : True := trivial
    clear ha
    go_wp2_with fail
    refine hK.out _ _ hnew ?_
    clear hK K
    refine rg_norm (a' := ?_) ?_ ?_
    rotate_left
    · simp only [Act.put, List.setIfInBounds_toArray, List.set_cons_zero, List.set_cons_succ]
      rfl
    clear hHeld
    have hHeld := hnew
    clear hnew
    refine rg_take (i := 8) (N := some 54) (v := ?_) (a' := ?_) (bm 15 1535) rfl rfl (by kernel_rfl) (fun _ _ _ h => h) hHeld (Or.inl ⟨by rfl, ?_⟩) ?_ ?_
    rotate_left
    · intro w' hw'
      have hw3' := hw3
      go_simp
      with_reducible rfl
    rotate_left
    · simp only [Act.put, List.setIfInBounds_toArray, List.set_cons_zero, List.set_cons_succ]
      rfl
    refine rg_take (i := 9) (N := some 55) (v := ?_) (a' := ?_) (bm 15 2047) rfl rfl (by kernel_rfl) (fun _ _ _ h => h) hHeld (Or.inl ⟨by rfl, ?_⟩) ?_ ?_
    rotate_left
    · intro w' hw'
      have hw3' := hw3
      go_simp
      with_reducible rfl
    rotate_left
    · simp only [Act.put, List.setIfInBounds_toArray, List.set_cons_zero, List.set_cons_succ]
      rfl
    refine rg_ready [11] (by kernel_rfl) (by simp) ?_
    refine rg_one (i := 11) (N := some 57) (bm 15 4095) rfl rfl (by kernel_rfl) (fun K hK => ?_) rg_nil
    have hq1 := SB.rowTake (HD6.out.pick4 [1, 0, 2, 3]) bh (by omega)
    have htk : (s.v.take m).take bh = s.v.take bh := by rw [List.take_take, Nat.min_eq_left (by omega)]
    rw [htk] at hq1
    obtain ⟨AL', cL', eL, _, hCL⟩ := (hq1.pick4 [3]).reads
    injection eL with eL1 eL2 eL3
    subst eL1
    subst eL3
    refine SB.appRowsStep (ys := xsL) hq1 (by rfl) (.tmp 55) (.tmp 56) 22 (.int .u64 0) 8 rfl Try.underlying22 info35 rfl (by decide) (by decide) rfl rfl (fun _ _ h => h) hCL (by simp; omega) ?_
    intro v5 wx4x6x11r4 hs5
    obtain ⟨A5, c5, rfl, hc5, _⟩ := hs5.reads
    obtain ⟨xs5, hxs5⟩ : ∃ xs, s.v.take bh ++ xsL = xs := ⟨_, rfl⟩
    rw [hxs5] at hs5
    have HX5 := Aside0.mk hxs5
    rw [hxs5]
    have HD9 := Aside0.mk hs5.swap
    have hnew : True := trivial
    clear hq1 htk hCL hs5 hxs5
    refine hK.out _ _ hnew ?_
    clear hK K
    refine rg_norm (a' := ?_) ?_ ?_
    rotate_left
    · simp only [Act.put, List.setIfInBounds_toArray, List.set_cons_zero, List.set_cons_succ]
      rfl
    clear hHeld
    have hHeld := hnew
    clear hnew
    refine rg_take (i := 12) (N := some 58) (v := ?_) (a' := ?_) (bm 15 8191) rfl rfl (by kernel_rfl) (fun _ _ _ h => h) hHeld (Or.inl ⟨by rfl, ?_⟩) ?_ ?_
    rotate_left
    · intro w' hw'
      have hw3' := hw3
      go_simp
      with_reducible rfl
    rotate_left
    · simp only [Act.put, List.setIfInBounds_toArray, List.set_cons_zero, List.set_cons_succ]
      rfl
    refine rg_take (i := 13) (N := some 59) (v := ?_) (a' := ?_) (bm 15 16383) rfl rfl (by kernel_rfl) (fun _ _ _ h => h) hHeld (Or.inl ⟨by rfl, ?_⟩) ?_ ?_
    rotate_left
    · intro w' hw'
      have hw3' := hw3
      go_simp
      with_reducible rfl
    rotate_left
    · simp only [Act.put, List.setIfInBounds_toArray, List.set_cons_zero, List.set_cons_succ]
      rfl
    refine rg_ready [14] (by kernel_rfl) (by simp) ?_
    refine rg_one (i := 14) (N := none) (bm 15 32767) rfl rfl (by kernel_rfl) (fun K hK => ?_) rg_nil
    have hb9 := HD9.out.blk
    have x0 := fsC_b _ _ _ hb9 0 (by omega)
    have f0 := blk_frozen hb9 0
    have h12 := HD9.out.set1 0 (.slice A5 xs5.length c5)
    rw [fsC_set0] at h12
    have HD12 := Aside0.mk h12
    have hnew : True := trivial
    clear hb9 h12
    go_simp
    refine hK.out undef _ hnew ?_
    clear hK K
    refine rg_norm (a' := ?_) ?_ ?_
    rotate_left
    · simp only [Act.put, List.setIfInBounds_toArray, List.set_cons_zero, List.set_cons_succ]
      rfl
    clear hHeld
    have hHeld := hnew
    clear hnew
    refine rg_done (by kernel_rfl) ?_
    go_wp2
    go_ret
    refine ⟨rfl, ?_⟩
    have hkk := HK.out
    rw [HXL.out, HX5.out]
    exact SB.close_ (s := { s with v := xs5 }) hz ⟨hkk.room0, hkk.room, hkk.len, hkk.base⟩ (HD12.out.pick4 [0, 1, 2])
  refine rg_one (i := 6) (N := some 52) (bm 15 1263) rfl rfl (by kernel_rfl) (fun K hK => ?_) ?_
  · skip
    have HD := Aside0.mk (hwd.out ▸ HDF.out)
    have ha := AtB_of (s := s) HD.out.blk hz HK.out
    rw [HB.out] at ha
    go_simp
    go_at_call 35
    with_reducible refine (frBase p _ (b : Int) _ ha).mono ?_
    rintro e wx6r4 ⟨rfl, ⟨nd6, rfl⟩⟩
    have HD6 := Aside0.mk (HD.out.drewN nd6)
    have hnew : True := trivial
    clear ha
    go_wp2_with fail
    refine hK.out _ _ hnew ?_
    clear hK K
    refine rg_norm (a' := ?_) ?_ ?_
    rotate_left
    · simp only [Act.put, List.setIfInBounds_toArray, List.set_cons_zero, List.set_cons_succ]
      rfl
    clear hHeld
    have hHeld := hnew
    clear hnew
    refine rg_take (i := 8) (N := some 54) (v := ?_) (a' := ?_) (bm 15 1519) rfl rfl (by kernel_rfl) (fun _ _ _ h => h) hHeld (Or.inl ⟨by rfl, ?_⟩) ?_ ?_
    rotate_left
    · intro w' hw'
      have hw3' := hw3
      go_simp
      with_reducible rfl
    rotate_left
    · simp only [Act.put, List.setIfInBounds_toArray, List.set_cons_zero, List.set_cons_succ]
      rfl
    refine rg_ready [4] (by kernel_rfl) (by simp) ?_
    refine rg_one (i := 4) (N := some 50) (bm 15 1535) rfl rfl (by kernel_rfl) (fun K hK => ?_) rg_nil
    have HD := Aside0.mk (hwd.out ▸ HDF.out)
    have s0 : wd.cell? ⟨p, 0, none⟩ = some (.slice A0 m c0) := fsC_b _ _ _ HD.out.blk 0 (by omega)
    refine value_ (w1 := ?_) (v := ?_) (by rfl) rfl ?_ ?_
    rotate_left 2
    · go_simp
      constructor
      · rfl
      · rfl
    have hnew : True := trivial
    refine hK.out _ _ hnew ?_
    clear hK K
    refine rg_norm (a' := ?_) ?_ ?_
    rotate_left
    · simp only [Act.put, List.setIfInBounds_toArray, List.set_cons_zero, List.set_cons_succ]
      rfl
    clear hHeld
    have hHeld := hnew
    clear hnew
    refine rg_take (i := 9) (N := some 55) (v := ?_) (a' := ?_) (bm 15 2047) rfl rfl (by kernel_rfl) (fun _ _ _ h => h) hHeld (Or.inl ⟨by rfl, ?_⟩) ?_ ?_
    rotate_left
    · intro w' hw'
      have hw3' := hw3
      go_simp
      with_reducible rfl
    rotate_left
    · simp only [Act.put, List.setIfInBounds_toArray, List.set_cons_zero, List.set_cons_succ]
      rfl
    refine rg_ready [11] (by kernel_rfl) (by simp) ?_
    refine rg_one (i := 11) (N := some 57) (bm 15 4095) rfl rfl (by kernel_rfl) (fun K hK => ?_) rg_nil
    have hq1 := SB.rowTake (HD6.out.pick4 [1, 0, 2, 3]) bh (by omega)
    have htk : (s.v.take m).take bh = s.v.take bh := by rw [List.take_take, Nat.min_eq_left (by omega)]
    rw [htk] at hq1
    obtain ⟨AL', cL', eL, _, hCL⟩ := (hq1.pick4 [3]).reads
    injection eL with eL1 eL2 eL3
    subst eL1
    subst eL3
    refine SB.appRowsStep (ys := xsL) hq1 (by rfl) (.tmp 55) (.tmp 56) 22 (.int .u64 0) 8 rfl Try.underlying22 info35 rfl (by decide) (by decide) rfl rfl (fun _ _ h => h) hCL (by simp; omega) ?_
    intro v5 wx6x4x11r4 hs5
    obtain ⟨A5, c5, rfl, hc5, _⟩ := hs5.reads
    obtain ⟨xs5, hxs5⟩ : ∃ xs, s.v.take bh ++ xsL = xs := ⟨_, rfl⟩
    rw [hxs5] at hs5
    have HX5 := Aside0.mk hxs5
    rw [hxs5]
    have HD9 := Aside0.mk hs5.swap
    have hnew : True := trivial
    clear hq1 htk hCL hs5 hxs5
    refine hK.out _ _ hnew ?_
    clear hK K
    refine rg_norm (a' := ?_) ?_ ?_
    rotate_left
    · simp only [Act.put, List.setIfInBounds_toArray, List.set_cons_zero, List.set_cons_succ]
      rfl
    clear hHeld
    have hHeld := hnew
    clear hnew
    refine rg_take (i := 12) (N := some 58) (v := ?_) (a' := ?_) (bm 15 8191) rfl rfl (by kernel_rfl) (fun _ _ _ h => h) hHeld (Or.inl ⟨by rfl, ?_⟩) ?_ ?_
    rotate_left
    · intro w' hw'
      have hw3' := hw3
      go_simp
      with_reducible rfl
    rotate_left
    · simp only [Act.put, List.setIfInBounds_toArray, List.set_cons_zero, List.set_cons_succ]
      rfl
    refine rg_take (i := 13) (N := some 59) (v := ?_) (a' := ?_) (bm 15 16383) rfl rfl (by kernel_rfl) (fun _ _ _ h => h) hHeld (Or.inl ⟨by rfl, ?_⟩) ?_ ?_
    rotate_left
    · intro w' hw'
      have hw3' := hw3
      go_simp
      with_reducible rfl
    rotate_left
    · simp only [Act.put, List.setIfInBounds_toArray, List.set_cons_zero, List.set_cons_succ]
      rfl
    refine rg_ready [14] (by kernel_rfl) (by simp) ?_
    refine rg_one (i := 14) (N := none) (bm 15 32767) rfl rfl (by kernel_rfl) (fun K hK => ?_) rg_nil
    have hb9 := HD9.out.blk
    have x0 := fsC_b _ _ _ hb9 0 (by omega)
    have f0 := blk_frozen hb9 0
    have h12 := HD9.out.set1 0 (.slice A5 xs5.length c5)
    rw [fsC_set0] at h12
    have HD12 := Aside0.mk h12
    have hnew : True := trivial
    clear hb9 h12
    go_simp
    refine hK.out undef _ hnew ?_
    clear hK K
    refine rg_norm (a' := ?_) ?_ ?_
    rotate_left
    · simp only [Act.put, List.setIfInBounds_toArray, List.set_cons_zero, List.set_cons_succ]
      rfl
    clear hHeld
    have hHeld := hnew
    clear hnew
    refine rg_done (by kernel_rfl) ?_
    go_wp2
    go_ret
    refine ⟨rfl, ?_⟩
    have hkk := HK.out
    rw [HXL.out, HX5.out]
    exact SB.close_ (s := { s with v := xs5 }) hz ⟨hkk.room0, hkk.room, hkk.len, hkk.base⟩ (HD12.out.pick4 [0, 1, 2])
  exact rg_nil
end Go.Proofs.Ytbbgkelcdooabaa.G
/- Package frames' stacks: what each function does, whatever it is given. -/
namespace Go.Proofs.Ytbbgkelcdooabaa.G
open Go.RowKit Go.Proofs.YtbbgkelcdooabaaW.PrintWords Go.Proofs.YtbbgkelcdooabaaW.PrintLast Go.Proofs.YtbbgkelcdooabaaW.PrintMore
set_option linter.unusedVariables false
set_option linter.unusedSimpArgs false
def fPush (s : FS) (l : List Int) : FS := { s with v := s.v ++ l }
def fTake (s : FS) (n : Int) : FS × List Int × Bool := if hasN s n then ({ s with v := s.v.take (s.v.length - n.toNat) }, s.v.drop (s.v.length - n.toNat), true) else (s, [], false)
def fPop (s : FS) : FS × Int × Bool := if hasN s 1 then ({ s with v := s.v.take (s.v.length - 1) }, s.v.getD (s.v.length - 1) 0, true) else (s, 0, false)
def fEnter (s : FS) (a b c d : Int) : FS × Int :=
  if s.room ≤ (s.fr.length : Int) then (s, 9) else if d < 0 ∨ ¬ hasN s c then (s, 11)
  else ({ s with v := s.v.take (s.v.length - c.toNat), fr := s.fr ++ [⟨a, b, s.v.drop (s.v.length - c.toNat) ++ List.replicate d.toNat 0, ((s.v.length - c.toNat : Nat) : Int)⟩] }, 0)
def fLeave (s : FS) (c : Int) : FS × Bool := if s.fr = [] ∨ ¬ hasN s c then (s, false) else ({ s with v := s.v.take (baseOf s.fr).toNat ++ s.v.drop (s.v.length - c.toNat), fr := s.fr.dropLast }, true)
def fCut (s : FS) (h a : Int) : FS × Bool :=
  if s.fr = [] ∨ h < 0 ∨ a < 0 ∨ ¬ hasN s h ∨ (s.v.length : Int) - baseOf s.fr - h < a then (s, false) else ({ s with v := s.v.take (baseOf s.fr + h).toNat ++ s.v.drop (s.v.length - a.toNat) }, true)
def fGo (s : FS) (pc : Int) : FS × Bool := match s.fr.getLast? with
  | none => (s, false)
  | some x => ({ s with fr := s.fr.dropLast ++ [{ x with pc := pc }] }, true)
def fGet (s : FS) (i : Int) : Int × Bool := match s.fr.getLast? with
  | none => (0, false)
  | some x => if 0 ≤ i ∧ i < (x.loc.length : Int) then (x.loc.getD i.toNat 0, true) else (0, false)
def fSet (s : FS) (i u : Int) : FS × Bool := match s.fr.getLast? with
  | none => (s, false)
  | some x => if 0 ≤ i ∧ i < (x.loc.length : Int) then ({ s with fr := s.fr.dropLast ++ [{ x with loc := x.loc.set i.toNat u }] }, true) else (s, false)
theorem last_none {l : List Fm} (h : l.getLast? = none) : l = [] := by simpa using h
theorem last_some {l : List Fm} {x : Fm} (h : l.getLast? = some x) : l = l.dropLast ++ [x] := by
  have h2 : l ≠ [] := by rintro rfl; simp at h
  rw [List.getLast?_eq_some_getLast h2] at h
  injection h with h
  rw [← h, List.dropLast_concat_getLast]
section
variable {w0 w : World} {L : List As} {p : Nat} {s : FS}
theorem fraTake (hS : SB w0 w (FO p s :: L)) (hl : s.v.length ≤ 1000000) (n : Int) {s' : FS} {l : List Int} {ok : Bool} (h : fTake s n = (s', l, ok)) :
    Calls Try.prog 33 #[.pointer (some ⟨p, 0, none⟩), .int .i64 n] w fun e w' => ∃ v, e = .returned (.tuple #[v, .bool ok]) ∧ SB w0 w' (Row (Kd.int .u64) 35 v l :: FO p s' :: L) := by
  unfold fTake at h
  split at h
  · rename_i hn
    obtain ⟨k, rfl⟩ := Int.eq_ofNat_of_zero_le hn.1
    simp only [Prod.mk.injEq, Int.toNat_natCast] at h
    obtain ⟨rfl, rfl, rfl⟩ := h
    exact frTakeOk hS hl k hn
  · rename_i hn
    simp only [Prod.mk.injEq] at h
    obtain ⟨rfl, rfl, rfl⟩ := h
    exact (frTakeNo hS hl n hn).mono (fun e w' h => ⟨_, h.1, SB.row h.2 (Below.refl _ _) (Kd.R_nil _ _ _ _ (fun _ => True))⟩)
theorem fraPop (hS : SB w0 w (FO p s :: L)) (hl : s.v.length ≤ 1000000) {s' : FS} {x : Int} {ok : Bool} (h : fPop s = (s', x, ok)) :
    Calls Try.prog 22 #[.pointer (some ⟨p, 0, none⟩)] w fun e w' => e = .returned (.tuple #[.int .u64 x, .bool ok]) ∧ SB w0 w' (FO p s' :: L) := by
  unfold fPop at h
  split at h
  · rename_i hn
    simp only [Prod.mk.injEq] at h
    obtain ⟨rfl, rfl, rfl⟩ := h
    exact frPopOk hS hl hn
  · rename_i hn
    simp only [Prod.mk.injEq] at h
    obtain ⟨rfl, rfl, rfl⟩ := h
    exact frPopNo hS hl hn
theorem fraEnter (hS : SB w0 w (FO p s :: L)) (hl : s.v.length ≤ 1000000) (a b c d : Int) (hd : d ≤ 1000000) {s' : FS} {r : Int} (h : fEnter s a b c d = (s', r)) :
    Calls Try.prog 12 #[.pointer (some ⟨p, 0, none⟩), .int .i64 a, .int .i64 b, .int .i64 c, .int .i64 d] w fun e w' => e = .returned (.int .i64 r) ∧ SB w0 w' (FO p s' :: L) := by
  unfold fEnter at h
  split at h
  · rename_i h1
    simp only [Prod.mk.injEq] at h
    obtain ⟨rfl, rfl⟩ := h
    exact frEnterDeep hS a b c d h1
  · rename_i h1
    split at h
    · rename_i h2
      simp only [Prod.mk.injEq] at h
      obtain ⟨rfl, rfl⟩ := h
      exact frEnterStuck hS hl a b c d (by omega) h2
    · rename_i h2
      have h3 : hasN s c := Classical.byContradiction fun hh => h2 (.inr hh)
      obtain ⟨k, rfl⟩ := Int.eq_ofNat_of_zero_le h3.1
      obtain ⟨m, rfl⟩ := Int.eq_ofNat_of_zero_le (show 0 ≤ d from Classical.byContradiction fun hh => h2 (.inl (by omega)))
      simp only [Prod.mk.injEq, Int.toNat_natCast] at h
      obtain ⟨rfl, rfl⟩ := h
      exact frEnterOk hS hl a b k m (by omega) h3 (by omega)
theorem fraLeave (hS : SB w0 w (FO p s :: L)) (hl : s.v.length ≤ 1000000) (c : Int) {s' : FS} {r : Bool} (h : fLeave s c = (s', r)) :
    Calls Try.prog 14 #[.pointer (some ⟨p, 0, none⟩), .int .i64 c] w fun e w' => e = .returned (.bool r) ∧ SB w0 w' (FO p s' :: L) := by
  unfold fLeave at h
  split at h
  · rename_i h1
    simp only [Prod.mk.injEq] at h
    obtain ⟨rfl, rfl⟩ := h
    exact frLeaveNo hS hl c (fun hf => h1.resolve_left hf)
  · rename_i h1
    have h3 : hasN s c := Classical.byContradiction fun hh => h1 (.inr hh)
    obtain ⟨k, rfl⟩ := Int.eq_ofNat_of_zero_le h3.1
    simp only [Prod.mk.injEq, Int.toNat_natCast] at h
    obtain ⟨rfl, rfl⟩ := h
    exact frLeaveOk hS hl k (fun hf => h1 (.inl hf)) h3
theorem fraCut (hS : SB w0 w (FO p s :: L)) (hl : s.v.length ≤ 1000000) (a c : Int) (ha : -9223372036854775808 ≤ a ∧ a < 9223372036854775808) {s' : FS} {r : Bool} (h : fCut s a c = (s', r)) :
    Calls Try.prog 38 #[.pointer (some ⟨p, 0, none⟩), .int .i64 a, .int .i64 c] w fun e w' => e = .returned (.bool r) ∧ SB w0 w' (FO p s' :: L) := by
  unfold fCut at h
  split at h
  · rename_i h1
    simp only [Prod.mk.injEq] at h
    obtain ⟨rfl, rfl⟩ := h
    exact frCutNo hS hl a c ha h1
  · rename_i h1
    simp only [not_or, Classical.not_not] at h1
    obtain ⟨h2, h3, h4, h5, h6⟩ := h1
    obtain ⟨k, rfl⟩ := Int.eq_ofNat_of_zero_le (show 0 ≤ a by omega)
    obtain ⟨m, rfl⟩ := Int.eq_ofNat_of_zero_le (show 0 ≤ c by omega)
    simp only [Prod.mk.injEq, Int.toNat_natCast] at h
    obtain ⟨rfl, rfl⟩ := h
    exact frCutOk hS hl k m h2 h5 (by omega)
theorem fraGo (hS : SB w0 w (FO p s :: L)) (pc : Int) {s' : FS} {r : Bool} (h : fGo s pc = (s', r)) :
    Calls Try.prog 39 #[.pointer (some ⟨p, 0, none⟩), .int .i64 pc] w fun e w' => e = .returned (.bool r) ∧ SB w0 w' (FO p s' :: L) := by
  unfold fGo at h
  split at h
  · rename_i h1
    simp only [Prod.mk.injEq] at h
    obtain ⟨rfl, rfl⟩ := h
    exact frGoNo hS pc (last_none h1)
  · rename_i x h1
    simp only [Prod.mk.injEq] at h
    obtain ⟨rfl, rfl⟩ := h
    exact frGoOk hS (last_some h1) pc
theorem noL {s : FS} {i : Int} {x : Fm} (h1 : s.fr.getLast? = some x) (h2 : ¬ (0 ≤ i ∧ i < (x.loc.length : Int))) : ¬ hasL s i := by
  rintro ⟨fr0, y, hy, h3⟩
  rw [hy, List.getLast?_concat] at h1
  injection h1 with h1
  subst h1
  exact h2 h3
theorem noL0 {s : FS} {i : Int} (h1 : s.fr.getLast? = none) : ¬ hasL s i := by
  rintro ⟨fr0, y, hy, h3⟩
  rw [hy, List.getLast?_concat] at h1
  cases h1
theorem fraGet (hS : SB w0 w (FO p s :: L)) (i : Int) {x : Int} {r : Bool} (h : fGet s i = (x, r)) :
    Calls Try.prog 18 #[.pointer (some ⟨p, 0, none⟩), .int .i64 i] w fun e w' => e = .returned (.tuple #[.int .u64 x, .bool r]) ∧ SB w0 w' (FO p s :: L) := by
  unfold fGet at h
  split at h
  · rename_i h1
    simp only [Prod.mk.injEq] at h
    obtain ⟨rfl, rfl⟩ := h
    exact frGetNo hS i (noL0 h1)
  · rename_i y h1
    split at h
    · rename_i h2
      obtain ⟨k, rfl⟩ := Int.eq_ofNat_of_zero_le h2.1
      have h3 : k < y.loc.length := by omega
      simp only [Prod.mk.injEq, Int.toNat_natCast] at h
      obtain ⟨rfl, rfl⟩ := h
      rw [show y.loc.getD k 0 = y.loc[k] by rw [List.getD_eq_getElem?_getD, List.getElem?_eq_getElem h3]; rfl]
      exact frGetOk hS (last_some h1) k h3
    · rename_i h2
      simp only [Prod.mk.injEq] at h
      obtain ⟨rfl, rfl⟩ := h
      exact frGetNo hS i (noL h1 h2)
theorem fraSet (hS : SB w0 w (FO p s :: L)) (i u : Int) {s' : FS} {r : Bool} (h : fSet s i u = (s', r)) :
    Calls Try.prog 17 #[.pointer (some ⟨p, 0, none⟩), .int .i64 i, .int .u64 u] w fun e w' => e = .returned (.bool r) ∧ SB w0 w' (FO p s' :: L) := by
  unfold fSet at h
  split at h
  · rename_i h1
    simp only [Prod.mk.injEq] at h
    obtain ⟨rfl, rfl⟩ := h
    exact frSetNo hS i u (noL0 h1)
  · rename_i y h1
    split at h
    · rename_i h2
      obtain ⟨k, rfl⟩ := Int.eq_ofNat_of_zero_le h2.1
      have h3 : k < y.loc.length := by omega
      simp only [Prod.mk.injEq, Int.toNat_natCast] at h
      obtain ⟨rfl, rfl⟩ := h
      exact frSetOk hS (last_some h1) k h3 u
    · rename_i h2
      simp only [Prod.mk.injEq] at h
      obtain ⟨rfl, rfl⟩ := h
      exact frSetNo hS i u (noL h1 h2)
theorem fraDepth (hS : SB w0 w (FO p s :: L)) : Calls Try.prog 13 #[.pointer (some ⟨p, 0, none⟩)] w fun e w' => e = .returned (.int .i64 (s.fr.length : Int)) ∧ SB w0 w' (FO p s :: L) := by
  obtain ⟨v, z, hz, hk, h1⟩ := hS.open_
  have hb := h1.blk
  have hzl : z.length = s.fr.length := by have := congrArg List.length hz; simpa using this
  have hn : w.cell? ⟨p, 257, none⟩ = some (.int .i64 (s.fr.length : Int)) := by rw [fsC_b _ _ _ hb 257 (by omega), ← hzl]; rfl
  exact (frDepth p _ w hn).mono (fun e w' h => ⟨h.1, hS.below (drawn_below h.2)⟩)
theorem fraPush (hS : SB w0 w (FO p s :: L)) (A : Option Addr) (c : Nat) (l : List Int) (hC : Kd.C (Kd.int .u64) w A l.length l) (hc : l.length ≤ c) (hl : s.v.length + l.length ≤ 1000000) :
    Calls Try.prog 11 #[.pointer (some ⟨p, 0, none⟩), .slice A l.length c] w fun e w' => e = .returned (.tuple #[]) ∧ SB w0 w' (FO p (fPush s l) :: L) := frPush hS A c l hC hc hl
end
end Go.Proofs.Ytbbgkelcdooabaa.G
/- Package frames' stacks: the document's example. -/
namespace Go.Proofs.Ytbbgkelcdooabaa.G
open Go.RowKit Go.Proofs.YtbbgkelcdooabaaW.PrintWords Go.Proofs.YtbbgkelcdooabaaW.PrintLast Go.Proofs.YtbbgkelcdooabaaW.PrintMore
set_option linter.unusedVariables false
set_option linter.unusedSimpArgs false
theorem lit_row {w0 w : World} {L : List As} (hS : SB w0 w L) (xs : List Int) (hl : xs.length ≤ 1000000) :
    SB w0 (w.alloc (.cells (encs (Value.int .u64) xs).toArray 35)) L ∧ Kd.C (Kd.int .u64) (w.alloc (.cells (encs (Value.int .u64) xs).toArray 35)) (some ⟨w.heap.size, 0, none⟩) xs.length xs := by
  have h := hS.lit (k := .u64) (e := 35) xs hl
  obtain ⟨A, c, e, _, hC⟩ := h.reads
  injection e with e1 e2 e3
  subst e1
  exact ⟨h.drop, hC⟩
theorem push12 {w w1 : World} {p : Nat} (hS : SB w w1 [FO p ⟨[], [], 2⟩]) :
    Calls Try.prog 11 #[.pointer (some ⟨p, 0, none⟩), .slice (some ⟨w1.heap.size, 0, none⟩) 2 2] (w1.alloc (.cells #[.int .u64 1, .int .u64 2] 35)) fun e w' => e = .returned (.tuple #[]) ∧ SB w w' [FO p ⟨[1, 2], [], 2⟩] :=
  fraPush (s := ⟨[], [], 2⟩) (lit_row hS [1, 2] (by decide)).1 (some ⟨w1.heap.size, 0, none⟩) 2 [1, 2] (lit_row hS [1, 2] (by decide)).2 (by decide) (by decide)
theorem push5 {w w1 : World} {p : Nat} (hS : SB w w1 [FO p ⟨[], [⟨7, 3, [1, 2, 0], 0⟩], 2⟩]) :
    Calls Try.prog 11 #[.pointer (some ⟨p, 0, none⟩), .slice (some ⟨w1.heap.size, 0, none⟩) 1 1] (w1.alloc (.cells #[.int .u64 5] 35)) fun e w' => e = .returned (.tuple #[]) ∧ SB w w' [FO p ⟨[5], [⟨7, 3, [1, 2, 0], 0⟩], 2⟩] :=
  fraPush (s := ⟨[], [⟨7, 3, [1, 2, 0], 0⟩], 2⟩) (lit_row hS [5] (by decide)).1 (some ⟨w1.heap.size, 0, none⟩) 1 [5] (lit_row hS [5] (by decide)).2 (by decide) (by decide)
theorem new2 (w : World) : Calls Try.prog 10 #[.int .i64 2] w fun e w' => ∃ p, e = .returned (.pointer (some ⟨p, 0, none⟩)) ∧ SB w w' [FO p ⟨[], [], 2⟩] :=
  (frNewS (SB.start w) 2).mono (fun e w' h => ⟨_, h.1, h.2⟩)
theorem top5 {w w1 : World} {p : Nat} (hS : SB w w1 [FO p ⟨[5], [⟨7, 3, [1, 2, 0], 0⟩], 2⟩]) :
    Calls Try.prog 27 #[.pointer (some ⟨p, 0, none⟩)] w1 fun e w' => ∃ A c, e = .returned (.tuple #[.agg #[.int .i64 7, .int .i64 3, .slice A 3 c, .int .i64 0], .bool true]) ∧ SB w w' [FO p ⟨[5], [⟨7, 3, [1, 2, 0], 0⟩], 2⟩] :=
  (frTopOk (s := ⟨[5], [⟨7, 3, [1, 2, 0], 0⟩], 2⟩) (fr0 := []) (x := ⟨7, 3, [1, 2, 0], 0⟩) hS rfl (by decide)).mono (fun e w' ⟨v, h1, h2⟩ => by
    obtain ⟨A, c, rfl, _, _⟩ := h2.reads
    exact ⟨A, c, h1, h2.drop⟩)
theorem awake (w : World) : Calls Try.prog 9 #[] w fun e w' => e = .returned (.bool true) ∧ Below w.heap.size w w' := by
  have e2 : fEnter ⟨[1, 2], [], 2⟩ 7 3 2 1 = (⟨[], [⟨7, 3, [1, 2, 0], 0⟩], 2⟩, 0) := rfl
  have e4 : fLeave ⟨[5], [⟨7, 3, [1, 2, 0], 0⟩], 2⟩ 1 = (⟨[5], [], 2⟩, true) := rfl
  have e5 : fPop ⟨[5], [], 2⟩ = (⟨[], [], 2⟩, 5, true) := rfl
  go_enter Try.func9, Try.ntmps9
  go_wp2_with (first
    | (go_at_call 10; (with_reducible refine (new2 w).mono ?_); rintro e w1 ⟨p, rfl, hs⟩; have HS1 := Aside0.mk hs; clear hs)
    | (go_at_call 11; (with_reducible refine (push12 HS1.out).mono ?_); rintro e w2 ⟨rfl, hs⟩; have HS2 := Aside0.mk hs; clear hs)
    | (go_at_call 12; (with_reducible refine (fraEnter HS2.out (by decide) 7 3 2 1 (by decide) e2).mono ?_); rintro e w3 ⟨rfl, hs⟩; have HS3 := Aside0.mk hs; clear hs)
    | (go_at_call 11; (with_reducible refine (push5 HS3.out).mono ?_); rintro e w4 ⟨rfl, hs⟩; have HS4 := Aside0.mk hs; clear hs)
    | (go_at_call 27; (with_reducible refine (top5 HS4.out).mono ?_); rintro e w5 ⟨A5, c5, rfl, hs⟩; have HS5 := Aside0.mk (hs.box #[.int .i64 7, .int .i64 3, .slice A5 3 c5, .int .i64 0] 58); clear hs)
    | (go_at_call 14; (with_reducible refine (fraLeave HS5.out.swap (by decide) 1 e4).mono ?_); rintro e w6 ⟨rfl, hs⟩; have HS6 := Aside0.mk hs; clear hs)
    | (go_at_call 22; (with_reducible refine (fraPop HS6.out (by decide) e5).mono ?_); rintro e w7 ⟨rfl, hs⟩; have hb := hs.drop.blk; have q0 := blk_cell hb 0; have q2 := blk_cell hb 2; have HS7 := Aside0.mk hs; clear hs hb)
    | (go_at_call 13; (with_reducible refine (fraDepth HS7.out).mono ?_); rintro e w8 ⟨rfl, hs⟩; have HS8 := Aside0.mk hs; clear hs))
  go_ret
  exact ⟨rfl, HS8.out.bel⟩
end Go.Proofs.Ytbbgkelcdooabaa.G
/- Package frames' stacks: one thing that is done. -/
namespace Go.Proofs.Ytbbgkelcdooabaa.G
open Go.RowKit Go.Proofs.YtbbgkelcdooabaaW.PrintWords Go.Proofs.YtbbgkelcdooabaaW.PrintLast Go.Proofs.YtbbgkelcdooabaaW.PrintMore
set_option linter.unusedVariables false
set_option linter.unusedSimpArgs false
def fDo (s : FS) (o : S44) : FS × Bool :=
  if o.f0 = 0 ∨ o.f0 = 1 then (fPush s o.f6, true)
  else if o.f0 = 2 then ((fPop s).1, (fPop s).2.2)
  else if o.f0 = 3 then ((fTake s o.f3).1, (fTake s o.f3).2.2)
  else if o.f0 = 4 ∨ o.f0 = 5 then ((fEnter s o.f1 o.f2 o.f3 o.f4).1, (fEnter s o.f1 o.f2 o.f3 o.f4).2 == 0)
  else if o.f0 = 6 then fLeave s o.f3
  else if o.f0 = 7 then fCut s o.f3 o.f4
  else if o.f0 = 8 then fGo s o.f2
  else if o.f0 = 9 then fSet s o.f3 o.f5
  else (s, true)
section
variable {w0 w : World} {L : List As} {p : Nat} {s : FS}
set_option maxHeartbeats 4000000 in
theorem frDo (hS : SB w0 w (FO p s :: L)) (o : S44) (A : Option Addr) (c : Nat) (hC : Kd.C (Kd.int .u64) w A o.f6.length o.f6) (hc : o.f6.length ≤ c) (hl : s.v.length + o.f6.length ≤ 1000000) (hM : o.f4 ≤ 1000000) (hN : -9223372036854775808 ≤ o.f3 ∧ o.f3 < 9223372036854775808) :
    Calls Try.prog 20 #[.pointer (some ⟨p, 0, none⟩), .agg #[.int .i64 o.f0, .int .i64 o.f1, .int .i64 o.f2, .int .i64 o.f3, .int .i64 o.f4, .int .u64 o.f5, .slice A o.f6.length c]] w fun e w' => e = .returned (.bool (fDo s o).2) ∧ SB w0 w' (FO p (fDo s o).1 :: L) := by
  obtain ⟨wh, f, pc, n, m, v, l⟩ := o
  dsimp only at hC hc hl hM hN ⊢
  have hbx := (hS.box #[.int .i64 wh, .int .i64 f, .int .i64 pc, .int .i64 n, .int .i64 m, .int .u64 v, .slice A l.length c] 44).swap
  have HS := Aside0.mk hbx
  have HC := Aside0.mk (Kd.C_below hC (below_alloc (Below.refl _ _) (.cells #[.int .i64 wh, .int .i64 f, .int .i64 pc, .int .i64 n, .int .i64 m, .int .u64 v, .slice A l.length c] 44)))
  have hl1 : s.v.length ≤ 1000000 := by omega
  clear hS hbx hC
  by_cases h01 : wh = 0 ∨ wh = 1
  · have e : fDo s ⟨wh, f, pc, n, m, v, l⟩ = (fPush s l, true) := by unfold fDo; rw [if_pos h01]
    rw [e]
    clear e
    rcases h01 with rfl | rfl
    · go_enter Try.func20, Try.ntmps20
      go_wp2_with (go_at_call 11; (with_reducible refine (fraPush HS.out A c l HC.out hc hl).mono ?_); rintro e w1 ⟨rfl, hs⟩; have HS1 := Aside0.mk hs; clear hs)
      go_ret
      exact ⟨rfl, HS1.out.swap.drop⟩
    · go_enter Try.func20, Try.ntmps20
      go_wp2_with (go_at_call 11; (with_reducible refine (fraPush HS.out A c l HC.out hc hl).mono ?_); rintro e w1 ⟨rfl, hs⟩; have HS1 := Aside0.mk hs; clear hs)
      go_ret
      exact ⟨rfl, HS1.out.swap.drop⟩
  by_cases h2 : wh = 2
  · subst h2
    have e : fDo s ⟨2, f, pc, n, m, v, l⟩ = ((fPop s).1, (fPop s).2.2) := rfl
    rw [e]
    clear e
    have hp := Aside0.mk (show fPop s = ((fPop s).1, (fPop s).2.1, (fPop s).2.2) from rfl)
    go_enter Try.func20, Try.ntmps20
    go_wp2_with (go_at_call 22; (with_reducible refine (fraPop HS.out hl1 hp.out).mono ?_); rintro e w1 ⟨rfl, hs⟩; have HS1 := Aside0.mk hs; clear hs)
    go_ret
    exact ⟨rfl, HS1.out.swap.drop⟩
  by_cases h3 : wh = 3
  · subst h3
    have e : fDo s ⟨3, f, pc, n, m, v, l⟩ = ((fTake s n).1, (fTake s n).2.2) := rfl
    rw [e]
    clear e
    have hp := Aside0.mk (show fTake s n = ((fTake s n).1, (fTake s n).2.1, (fTake s n).2.2) from rfl)
    go_enter Try.func20, Try.ntmps20
    go_wp2_with (go_at_call 33; (with_reducible refine (fraTake HS.out hl1 n hp.out).mono ?_); rintro e w1 ⟨v1, rfl, hs⟩; have HS1 := Aside0.mk hs; clear hs)
    go_ret
    exact ⟨rfl, HS1.out.drop.swap.drop⟩
  by_cases h45 : wh = 4 ∨ wh = 5
  · have e : fDo s ⟨wh, f, pc, n, m, v, l⟩ = ((fEnter s f pc n m).1, (fEnter s f pc n m).2 == 0) := by unfold fDo; rw [if_neg h01, if_neg h2, if_neg h3, if_pos h45]
    rw [e]
    clear e h01 h2 h3
    have hp := Aside0.mk (show fEnter s f pc n m = ((fEnter s f pc n m).1, (fEnter s f pc n m).2) from rfl)
    rcases h45 with rfl | rfl
    · go_enter Try.func20, Try.ntmps20
      go_wp2_with (go_at_call 12; (with_reducible refine (fraEnter HS.out hl1 f pc n m hM hp.out).mono ?_); rintro e w1 ⟨rfl, hs⟩; have HS1 := Aside0.mk hs; clear hs)
      go_ret
      exact ⟨rfl, HS1.out.swap.drop⟩
    · go_enter Try.func20, Try.ntmps20
      go_wp2_with (go_at_call 12; (with_reducible refine (fraEnter HS.out hl1 f pc n m hM hp.out).mono ?_); rintro e w1 ⟨rfl, hs⟩; have HS1 := Aside0.mk hs; clear hs)
      go_ret
      exact ⟨rfl, HS1.out.swap.drop⟩
  by_cases h6 : wh = 6
  · subst h6
    have e : fDo s ⟨6, f, pc, n, m, v, l⟩ = ((fLeave s n).1, (fLeave s n).2) := rfl
    rw [e]
    clear e
    have hp := Aside0.mk (show fLeave s n = ((fLeave s n).1, (fLeave s n).2) from rfl)
    go_enter Try.func20, Try.ntmps20
    go_wp2_with (go_at_call 14; (with_reducible refine (fraLeave HS.out hl1 n hp.out).mono ?_); rintro e w1 ⟨rfl, hs⟩; have HS1 := Aside0.mk hs; clear hs)
    go_ret
    exact ⟨rfl, HS1.out.swap.drop⟩
  by_cases h7 : wh = 7
  · subst h7
    have e : fDo s ⟨7, f, pc, n, m, v, l⟩ = ((fCut s n m).1, (fCut s n m).2) := rfl
    rw [e]
    clear e
    have hp := Aside0.mk (show fCut s n m = ((fCut s n m).1, (fCut s n m).2) from rfl)
    go_enter Try.func20, Try.ntmps20
    go_wp2_with (go_at_call 38; (with_reducible refine (fraCut HS.out hl1 n m hN hp.out).mono ?_); rintro e w1 ⟨rfl, hs⟩; have HS1 := Aside0.mk hs; clear hs)
    go_ret
    exact ⟨rfl, HS1.out.swap.drop⟩
  by_cases h8 : wh = 8
  · subst h8
    have e : fDo s ⟨8, f, pc, n, m, v, l⟩ = ((fGo s pc).1, (fGo s pc).2) := rfl
    rw [e]
    clear e
    have hp := Aside0.mk (show fGo s pc = ((fGo s pc).1, (fGo s pc).2) from rfl)
    go_enter Try.func20, Try.ntmps20
    go_wp2_with (go_at_call 39; (with_reducible refine (fraGo HS.out pc hp.out).mono ?_); rintro e w1 ⟨rfl, hs⟩; have HS1 := Aside0.mk hs; clear hs)
    go_ret
    exact ⟨rfl, HS1.out.swap.drop⟩
  by_cases h9 : wh = 9
  · subst h9
    have e : fDo s ⟨9, f, pc, n, m, v, l⟩ = ((fSet s n v).1, (fSet s n v).2) := rfl
    rw [e]
    clear e
    have hp := Aside0.mk (show fSet s n v = ((fSet s n v).1, (fSet s n v).2) from rfl)
    go_enter Try.func20, Try.ntmps20
    go_wp2_with (go_at_call 17; (with_reducible refine (fraSet HS.out n v hp.out).mono ?_); rintro e w1 ⟨rfl, hs⟩; have HS1 := Aside0.mk hs; clear hs)
    go_ret
    exact ⟨rfl, HS1.out.swap.drop⟩
  · have e : fDo s ⟨wh, f, pc, n, m, v, l⟩ = (s, true) := by unfold fDo; rw [if_neg h01, if_neg h2, if_neg h3, if_neg h45, if_neg h6, if_neg h7, if_neg h8, if_neg h9]
    rw [e]
    clear e
    simp only [not_or] at h01 h45
    have b0 : (wh == 0) = false := beq_eq_false_iff_ne.2 h01.1
    have b1 : (wh == 1) = false := beq_eq_false_iff_ne.2 h01.2
    have b2 : (wh == 2) = false := beq_eq_false_iff_ne.2 h2
    have b3 : (wh == 3) = false := beq_eq_false_iff_ne.2 h3
    have b4 : (wh == 4) = false := beq_eq_false_iff_ne.2 h45.1
    have b5 : (wh == 5) = false := beq_eq_false_iff_ne.2 h45.2
    have b6 : (wh == 6) = false := beq_eq_false_iff_ne.2 h6
    have b7 : (wh == 7) = false := beq_eq_false_iff_ne.2 h7
    have b8 : (wh == 8) = false := beq_eq_false_iff_ne.2 h8
    have b9 : (wh == 9) = false := beq_eq_false_iff_ne.2 h9
    clear h01 h2 h3 h45 h6 h7 h8 h9
    go_enter Try.func20, Try.ntmps20
    go_wp2
    go_ret
    exact ⟨rfl, HS.out.swap.drop⟩
end
end Go.Proofs.Ytbbgkelcdooabaa.G
