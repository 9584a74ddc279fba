/- Package frames' stacks: Local, SetLocal, Go. -/
import Derived.Deep.DeepMust
import Derived.Test.YtbbgkelcdooabaaFraG
namespace Go.Proofs.Ytbbgkelcdooabaa.G
open Go.RowKit Go.Proofs.YtbbgkelcdooabaaW.PrintWords Go.Proofs.YtbbgkelcdooabaaW.PrintLast Go.Proofs.YtbbgkelcdooabaaW.PrintMore
set_option linter.unusedVariables false
set_option linter.unusedSimpArgs false
theorem fr_zero {w0 w : World} {L : List As} {p : Nat} {s : FS} (hS : SB w0 w (FO p s :: L)) (hf : s.fr = []) : w.cell? ⟨p, 257, none⟩ = some (.int .i64 0) := by
  obtain ⟨v, z, hz, hk, h1⟩ := hS.open_
  have hb := h1.blk
  have hzl : z.length = 0 := by have := congrArg List.length hz; rw [hf] at this; simpa using this
  rw [fsC_b _ _ _ hb 257 (by omega)]; unfold cellAt; rw [hzl]; rfl
theorem frLocal0 (p : Nat) (i : Int) (w : World) (h : w.cell? ⟨p, 257, none⟩ = some (.int .i64 0)) :
    Calls Try.prog 37 #[.pointer (some ⟨p, 0, none⟩), .int .i64 i] w fun e w' => e = .returned (.pointer none) ∧ Drawn0 w w' := by
  go_enter Try.func37, Try.ntmps37
  go_wp2_with (go_at_call 34; (with_reducible refine (frTop0 p _ h).mono ?_); rintro e w' ⟨rfl, ⟨nd, rfl⟩⟩)
  go_ret
  exact ⟨rfl, drawn_n _ _⟩
theorem frLocalNo (p n : Nat) (A : Option Addr) (m c : Nat) (i : Int) (w : World) (hn : n < 64) (h : w.cell? ⟨p, 257, none⟩ = some (.int .i64 ((n + 1 : Nat) : Int))) (h2 : w.cell? ⟨p, 1 + n * 4 + 2, none⟩ = some (.slice A m c)) (hi : i < 0 ∨ (m : Int) ≤ i) :
    Calls Try.prog 37 #[.pointer (some ⟨p, 0, none⟩), .int .i64 i] w fun e w' => e = .returned (.pointer none) ∧ Drawn0 w w' := by
  by_cases c1 : i < 0
  · have d1 : decide (i < 0) = true := decide_eq_true c1
    clear hi c1
    go_enter Try.func37, Try.ntmps37
    go_wp2_with (go_at_call 34; (with_reducible refine (frTop p n _ hn h).mono ?_); rintro e w' ⟨rfl, ⟨nd, rfl⟩⟩)
    go_ret
    exact ⟨rfl, drawn_n _ _⟩
  · have d1 : decide (i < 0) = false := decide_eq_false c1
    have d2 : decide ((m : Int) ≤ i) = true := decide_eq_true (hi.resolve_left c1)
    clear hi c1
    go_enter Try.func37, Try.ntmps37
    go_wp2_with (go_at_call 34; (with_reducible refine (frTop p n _ hn h).mono ?_); rintro e w' ⟨rfl, ⟨nd, rfl⟩⟩)
    go_ret
    exact ⟨rfl, drawn_n _ _⟩
theorem frLocalAt (p n : Nat) (ad : Addr) (m c : Nat) (i : Nat) (w : World) (hn : n < 64) (h : w.cell? ⟨p, 257, none⟩ = some (.int .i64 ((n + 1 : Nat) : Int))) (h2 : w.cell? ⟨p, 1 + n * 4 + 2, none⟩ = some (.slice (some ad) m c)) (hi : i < m) :
    Calls Try.prog 37 #[.pointer (some ⟨p, 0, none⟩), .int .i64 (i : Int)] w fun e w' => e = .returned (.pointer (some (ad.add i))) ∧ Drawn0 w w' := by
  have d1 : decide ((i : Int) < 0) = false := decide_eq_false (by omega)
  have d2 : decide ((m : Int) ≤ (i : Int)) = false := decide_eq_false (by omega)
  have d3 : decide (m ≤ i) = false := decide_eq_false (by omega)
  go_enter Try.func37, Try.ntmps37
  go_wp2_with (go_at_call 34; (with_reducible refine (frTop p n _ hn h).mono ?_); rintro e w' ⟨rfl, ⟨nd, rfl⟩⟩)
  go_ret
  exact ⟨rfl, drawn_n _ _⟩
/-- Is there such a local? -/
def hasL (s : FS) (i : Int) : Prop := ∃ fr0 x, s.fr = fr0 ++ [x] ∧ 0 ≤ i ∧ i < (x.loc.length : Int)
theorem frLocalNone {w0 w : World} {L : List As} {p : Nat} {s : FS} (hS : SB w0 w (FO p s :: L)) (i : Int) (hn : ¬ hasL s i) :
    Calls Try.prog 37 #[.pointer (some ⟨p, 0, none⟩), .int .i64 i] w fun e w' => e = .returned (.pointer none) ∧ Drawn0 w w' := by
  rcases List.eq_nil_or_concat s.fr with hf | ⟨fr0, x, hf⟩
  · exact frLocal0 p i w (fr_zero hS hf)
  · rw [List.concat_eq_append] at hf
    obtain ⟨h64, h257, A, c, _, _, h2, _, _, _⟩ := frTopCells hS hf
    exact frLocalNo p _ A _ c i w h64 h257 h2 (by
      by_cases h0 : i < 0
      · exact .inl h0
      · exact .inr (by
          by_cases h1 : i < (x.loc.length : Int)
          · exact absurd ⟨fr0, x, hf, by omega, h1⟩ hn
          · omega))
theorem frGetNo {w0 w : World} {L : List As} {p : Nat} {s : FS} (hS : SB w0 w (FO p s :: L)) (i : Int) (hn : ¬ hasL s i) :
    Calls Try.prog 18 #[.pointer (some ⟨p, 0, none⟩), .int .i64 i] w fun e w' => e = .returned (.tuple #[.int .u64 0, .bool false]) ∧ SB w0 w' (FO p s :: L) := by
  have hc := Aside0.mk (frLocalNone hS i hn)
  have HS := Aside0.mk hS
  clear hS hn
  go_enter Try.func18, Try.ntmps18
  go_wp2_with (go_at_call 37; go_must ((with_reducible refine (hc.out).mono ?_)); rintro e w' ⟨rfl, ⟨nd, rfl⟩⟩)
  go_ret2
  exact ⟨rfl, HS.out.drewN _⟩
theorem frSetNo {w0 w : World} {L : List As} {p : Nat} {s : FS} (hS : SB w0 w (FO p s :: L)) (i u : Int) (hn : ¬ hasL s i) :
    Calls Try.prog 17 #[.pointer (some ⟨p, 0, none⟩), .int .i64 i, .int .u64 u] w fun e w' => e = .returned (.bool false) ∧ SB w0 w' (FO p s :: L) := by
  have hc := Aside0.mk (frLocalNone hS i hn)
  have HS := Aside0.mk hS
  clear hS hn
  go_enter Try.func17, Try.ntmps17
  go_wp2_with (go_at_call 37; go_must ((with_reducible refine (hc.out).mono ?_)); rintro e w' ⟨rfl, ⟨nd, rfl⟩⟩)
  go_ret
  exact ⟨rfl, HS.out.drewN _⟩
theorem frGetOk {w0 w : World} {L : List As} {p : Nat} {s : FS} (hS : SB w0 w (FO p s :: L)) {fr0 : List Fm} {x : Fm} (hx : s.fr = fr0 ++ [x]) (i : Nat) (hi : i < x.loc.length) :
    Calls Try.prog 18 #[.pointer (some ⟨p, 0, none⟩), .int .i64 (i : Int)] w fun e w' => e = .returned (.tuple #[.int .u64 x.loc[i], .bool true]) ∧ SB w0 w' (FO p s :: L) := by
  obtain ⟨h64, h257, g, c, h2, hcell, hfro, _⟩ := frTopLoc hS hx i hi
  have had : (⟨g, 0, none⟩ : Addr).add i = ⟨g, i, none⟩ := by unfold Addr.add; split <;> simp_all
  have h := frLocalAt p fr0.length ⟨g, 0, none⟩ x.loc.length c i w h64 h257 h2 hi
  rw [had] at h
  have hc := Aside0.mk h
  have HS := Aside0.mk hS
  obtain ⟨y, hy⟩ : ∃ y, x.loc[i] = y := ⟨_, rfl⟩
  rw [hy] at hcell ⊢
  clear hS hx h had h2 h257 hy
  go_enter Try.func18, Try.ntmps18
  go_wp2_with (go_at_call 37; go_must ((with_reducible refine (hc.out).mono ?_)); rintro e w' ⟨rfl, ⟨nd, rfl⟩⟩)
  go_ret2
  exact ⟨rfl, HS.out.drewN _⟩
theorem frSetOk {w0 w : World} {L : List As} {p : Nat} {s : FS} (hS : SB w0 w (FO p s :: L)) {fr0 : List Fm} {x : Fm} (hx : s.fr = fr0 ++ [x]) (i : Nat) (hi : i < x.loc.length) (u : Int) :
    Calls Try.prog 17 #[.pointer (some ⟨p, 0, none⟩), .int .i64 (i : Int), .int .u64 u] w fun e w' => e = .returned (.bool true) ∧ SB w0 w' (FO p { s with fr := fr0 ++ [{ x with loc := x.loc.set i u }] } :: L) := by
  obtain ⟨h64, h257, g, c, h2, hcell, hfro, hset⟩ := frTopLoc hS hx i hi
  have had : (⟨g, 0, none⟩ : Addr).add i = ⟨g, i, none⟩ := by unfold Addr.add; split <;> simp_all
  have h := frLocalAt p fr0.length ⟨g, 0, none⟩ x.loc.length c i w h64 h257 h2 hi
  rw [had] at h
  have hc := Aside0.mk h
  have HS := Aside0.mk (fun nd => by
    obtain ⟨_, _, g', c', h2', _, _, hset'⟩ := frTopLoc (hS.drewN nd) hx i hi
    have e : some (Value.slice (some ⟨g', 0, none⟩) x.loc.length c') = some (.slice (some ⟨g, 0, none⟩) x.loc.length c) := by rw [← h2', ← h2]; rfl
    injection e with e
    injection e with e
    injection e with e
    injection e with e
    subst e
    exact hset' u : ∀ nd, SB w0 ((w.drewN nd).setCell ⟨g, i, none⟩ (.int .u64 u)) (FO p { s with fr := fr0 ++ [{ x with loc := x.loc.set i u }] } :: L))
  clear hS hx h had h2 h257 hset
  go_enter Try.func17, Try.ntmps17
  go_wp2_with (go_at_call 37; go_must ((with_reducible refine (hc.out).mono ?_)); rintro e w' ⟨rfl, ⟨nd, rfl⟩⟩)
  go_ret
  exact ⟨rfl, HS.out _⟩
theorem frGoNo {w0 w : World} {L : List As} {p : Nat} {s : FS} (hS : SB w0 w (FO p s :: L)) (pc : Int) (hf : s.fr = []) :
    Calls Try.prog 39 #[.pointer (some ⟨p, 0, none⟩), .int .i64 pc] w fun e w' => e = .returned (.bool false) ∧ SB w0 w' (FO p s :: L) := by
  have h := fr_zero hS hf
  have HS := Aside0.mk hS
  clear hS hf
  go_enter Try.func39, Try.ntmps39
  go_wp2_with (go_at_call 34; (with_reducible refine (frTop0 p _ h).mono ?_); rintro e w' ⟨rfl, ⟨nd, rfl⟩⟩)
  go_ret
  exact ⟨rfl, HS.out.drewN _⟩
theorem frGoOk {w0 w : World} {L : List As} {p : Nat} {s : FS} (hS : SB w0 w (FO p s :: L)) {fr0 : List Fm} {x : Fm} (hx : s.fr = fr0 ++ [x]) (pc : Int) :
    Calls Try.prog 39 #[.pointer (some ⟨p, 0, none⟩), .int .i64 pc] w fun e w' => e = .returned (.bool true) ∧ SB w0 w' (FO p { s with fr := fr0 ++ [{ x with pc := pc }] } :: L) := by
  obtain ⟨h64, h257, A, c, _, h1, _, _, _, _⟩ := frTopCells hS hx
  obtain ⟨v, z, hz, hk, hO⟩ := hS.open_
  have hb := hO.blk
  have hfro := blk_frozen hb (1 + fr0.length * 4 + 1)
  obtain ⟨z0, y, rfl⟩ : ∃ z0 y, z = z0 ++ [y] := by
    rcases List.eq_nil_or_concat z with h | ⟨z0, y, h⟩
    · rw [h, hx] at hz; simp at hz
    · exact ⟨z0, y, by rw [h, List.concat_eq_append]⟩
  rw [List.map_append, hx] at hz
  obtain ⟨hz1, hz2⟩ := List.append_inj' hz rfl
  have hl0 : z0.length = fr0.length := by rw [← hz1]; simp
  have hy : y.1 = x := by simpa using hz2
  have HO := Aside0.mk hO
  have HX := Aside0.mk hx
  have HK := Aside0.mk hk
  clear hO hb hS hx hk hz
  go_enter Try.func39, Try.ntmps39
  go_wp2_with (go_at_call 34; (with_reducible refine (frTop p _ _ h64 h257).mono ?_); rintro e w' ⟨rfl, ⟨nd, rfl⟩⟩)
  go_ret
  refine ⟨rfl, ?_⟩
  have h2 := (HO.out.drewN nd).set1 (1 + fr0.length * 4 + 1) (.int .i64 pc)
  rw [fsC_pc v z0 s.room y fr0.length hl0 h64 pc, rowsOf_push, ← rowsOf_push z0 ({ y.1 with pc := pc }, y.2)] at h2
  have hkk := HK.out
  have hxx := HX.out
  refine SB.close_ (s := { s with fr := fr0 ++ [{ x with pc := pc }] }) (by rw [List.map_append, hz1, ← hy]; rfl) ⟨hkk.room0, hkk.room, by have := hkk.len; rw [hxx] at this; simpa using this, fun f hf => ?_⟩ h2
  rcases List.mem_append.1 hf with hf | hf
  · exact hkk.base f (by rw [hxx]; exact List.mem_append_left _ hf)
  · rw [List.mem_singleton.1 hf]
    exact hkk.base x (by rw [hxx]; simp)
end Go.Proofs.Ytbbgkelcdooabaa.G
