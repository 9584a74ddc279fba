/- Package frames' stacks: what each function does, whatever it is given. -/
import Derived.Deep.DeepMust
import Derived.Test.YtbbgkelcdooabaaFraI
namespace Go.Proofs.Ytbbgkelcdooabaa.G
open Go.RowKit Go.Proofs.YtbbgkelcdooabaaW.PrintWords Go.Proofs.YtbbgkelcdooabaaW.PrintLast Go.Proofs.YtbbgkelcdooabaaW.PrintMore
set_option linter.unusedVariables false
set_option linter.unusedSimpArgs false
def fPush (s : FS) (l : List Int) : FS := { s with v := s.v ++ l }
def fTake (s : FS) (n : Int) : FS × List Int × Bool := if hasN s n then ({ s with v := s.v.take (s.v.length - n.toNat) }, s.v.drop (s.v.length - n.toNat), true) else (s, [], false)
def fPop (s : FS) : FS × Int × Bool := if hasN s 1 then ({ s with v := s.v.take (s.v.length - 1) }, s.v.getD (s.v.length - 1) 0, true) else (s, 0, false)
def fEnter (s : FS) (a b c d : Int) : FS × Int :=
  if s.room ≤ (s.fr.length : Int) then (s, 9) else if d < 0 ∨ ¬ hasN s c then (s, 11)
  else ({ s with v := s.v.take (s.v.length - c.toNat), fr := s.fr ++ [⟨a, b, s.v.drop (s.v.length - c.toNat) ++ List.replicate d.toNat 0, ((s.v.length - c.toNat : Nat) : Int)⟩] }, 0)
def fLeave (s : FS) (c : Int) : FS × Bool := if s.fr = [] ∨ ¬ hasN s c then (s, false) else ({ s with v := s.v.take (baseOf s.fr).toNat ++ s.v.drop (s.v.length - c.toNat), fr := s.fr.dropLast }, true)
def fCut (s : FS) (h a : Int) : FS × Bool :=
  if s.fr = [] ∨ h < 0 ∨ a < 0 ∨ ¬ hasN s h ∨ (s.v.length : Int) - baseOf s.fr - h < a then (s, false) else ({ s with v := s.v.take (baseOf s.fr + h).toNat ++ s.v.drop (s.v.length - a.toNat) }, true)
def fGo (s : FS) (pc : Int) : FS × Bool := match s.fr.getLast? with
  | none => (s, false)
  | some x => ({ s with fr := s.fr.dropLast ++ [{ x with pc := pc }] }, true)
def fGet (s : FS) (i : Int) : Int × Bool := match s.fr.getLast? with
  | none => (0, false)
  | some x => if 0 ≤ i ∧ i < (x.loc.length : Int) then (x.loc.getD i.toNat 0, true) else (0, false)
def fSet (s : FS) (i u : Int) : FS × Bool := match s.fr.getLast? with
  | none => (s, false)
  | some x => if 0 ≤ i ∧ i < (x.loc.length : Int) then ({ s with fr := s.fr.dropLast ++ [{ x with loc := x.loc.set i.toNat u }] }, true) else (s, false)
theorem last_none {l : List Fm} (h : l.getLast? = none) : l = [] := by simpa using h
theorem last_some {l : List Fm} {x : Fm} (h : l.getLast? = some x) : l = l.dropLast ++ [x] := by
  have h2 : l ≠ [] := by rintro rfl; simp at h
  rw [List.getLast?_eq_some_getLast h2] at h
  injection h with h
  rw [← h, List.dropLast_concat_getLast]
section
variable {w0 w : World} {L : List As} {p : Nat} {s : FS}
theorem fraTake (hS : SB w0 w (FO p s :: L)) (hl : s.v.length ≤ 1000000) (n : Int) {s' : FS} {l : List Int} {ok : Bool} (h : fTake s n = (s', l, ok)) :
    Calls Try.prog 33 #[.pointer (some ⟨p, 0, none⟩), .int .i64 n] w fun e w' => ∃ v, e = .returned (.tuple #[v, .bool ok]) ∧ SB w0 w' (Row (Kd.int .u64) 35 v l :: FO p s' :: L) := by
  unfold fTake at h
  split at h
  · rename_i hn
    obtain ⟨k, rfl⟩ := Int.eq_ofNat_of_zero_le hn.1
    simp only [Prod.mk.injEq, Int.toNat_natCast] at h
    obtain ⟨rfl, rfl, rfl⟩ := h
    exact frTakeOk hS hl k hn
  · rename_i hn
    simp only [Prod.mk.injEq] at h
    obtain ⟨rfl, rfl, rfl⟩ := h
    exact (frTakeNo hS hl n hn).mono (fun e w' h => ⟨_, h.1, SB.row h.2 (Below.refl _ _) (Kd.R_nil _ _ _ _ (fun _ => True))⟩)
theorem fraPop (hS : SB w0 w (FO p s :: L)) (hl : s.v.length ≤ 1000000) {s' : FS} {x : Int} {ok : Bool} (h : fPop s = (s', x, ok)) :
    Calls Try.prog 22 #[.pointer (some ⟨p, 0, none⟩)] w fun e w' => e = .returned (.tuple #[.int .u64 x, .bool ok]) ∧ SB w0 w' (FO p s' :: L) := by
  unfold fPop at h
  split at h
  · rename_i hn
    simp only [Prod.mk.injEq] at h
    obtain ⟨rfl, rfl, rfl⟩ := h
    exact frPopOk hS hl hn
  · rename_i hn
    simp only [Prod.mk.injEq] at h
    obtain ⟨rfl, rfl, rfl⟩ := h
    exact frPopNo hS hl hn
theorem fraEnter (hS : SB w0 w (FO p s :: L)) (hl : s.v.length ≤ 1000000) (a b c d : Int) (hd : d ≤ 1000000) {s' : FS} {r : Int} (h : fEnter s a b c d = (s', r)) :
    Calls Try.prog 12 #[.pointer (some ⟨p, 0, none⟩), .int .i64 a, .int .i64 b, .int .i64 c, .int .i64 d] w fun e w' => e = .returned (.int .i64 r) ∧ SB w0 w' (FO p s' :: L) := by
  unfold fEnter at h
  split at h
  · rename_i h1
    simp only [Prod.mk.injEq] at h
    obtain ⟨rfl, rfl⟩ := h
    exact frEnterDeep hS a b c d h1
  · rename_i h1
    split at h
    · rename_i h2
      simp only [Prod.mk.injEq] at h
      obtain ⟨rfl, rfl⟩ := h
      exact frEnterStuck hS hl a b c d (by omega) h2
    · rename_i h2
      have h3 : hasN s c := Classical.byContradiction fun hh => h2 (.inr hh)
      obtain ⟨k, rfl⟩ := Int.eq_ofNat_of_zero_le h3.1
      obtain ⟨m, rfl⟩ := Int.eq_ofNat_of_zero_le (show 0 ≤ d from Classical.byContradiction fun hh => h2 (.inl (by omega)))
      simp only [Prod.mk.injEq, Int.toNat_natCast] at h
      obtain ⟨rfl, rfl⟩ := h
      exact frEnterOk hS hl a b k m (by omega) h3 (by omega)
theorem fraLeave (hS : SB w0 w (FO p s :: L)) (hl : s.v.length ≤ 1000000) (c : Int) {s' : FS} {r : Bool} (h : fLeave s c = (s', r)) :
    Calls Try.prog 14 #[.pointer (some ⟨p, 0, none⟩), .int .i64 c] w fun e w' => e = .returned (.bool r) ∧ SB w0 w' (FO p s' :: L) := by
  unfold fLeave at h
  split at h
  · rename_i h1
    simp only [Prod.mk.injEq] at h
    obtain ⟨rfl, rfl⟩ := h
    exact frLeaveNo hS hl c (fun hf => h1.resolve_left hf)
  · rename_i h1
    have h3 : hasN s c := Classical.byContradiction fun hh => h1 (.inr hh)
    obtain ⟨k, rfl⟩ := Int.eq_ofNat_of_zero_le h3.1
    simp only [Prod.mk.injEq, Int.toNat_natCast] at h
    obtain ⟨rfl, rfl⟩ := h
    exact frLeaveOk hS hl k (fun hf => h1 (.inl hf)) h3
theorem fraCut (hS : SB w0 w (FO p s :: L)) (hl : s.v.length ≤ 1000000) (a c : Int) (ha : -9223372036854775808 ≤ a ∧ a < 9223372036854775808) {s' : FS} {r : Bool} (h : fCut s a c = (s', r)) :
    Calls Try.prog 38 #[.pointer (some ⟨p, 0, none⟩), .int .i64 a, .int .i64 c] w fun e w' => e = .returned (.bool r) ∧ SB w0 w' (FO p s' :: L) := by
  unfold fCut at h
  split at h
  · rename_i h1
    simp only [Prod.mk.injEq] at h
    obtain ⟨rfl, rfl⟩ := h
    exact frCutNo hS hl a c ha h1
  · rename_i h1
    simp only [not_or, Classical.not_not] at h1
    obtain ⟨h2, h3, h4, h5, h6⟩ := h1
    obtain ⟨k, rfl⟩ := Int.eq_ofNat_of_zero_le (show 0 ≤ a by omega)
    obtain ⟨m, rfl⟩ := Int.eq_ofNat_of_zero_le (show 0 ≤ c by omega)
    simp only [Prod.mk.injEq, Int.toNat_natCast] at h
    obtain ⟨rfl, rfl⟩ := h
    exact frCutOk hS hl k m h2 h5 (by omega)
theorem fraGo (hS : SB w0 w (FO p s :: L)) (pc : Int) {s' : FS} {r : Bool} (h : fGo s pc = (s', r)) :
    Calls Try.prog 39 #[.pointer (some ⟨p, 0, none⟩), .int .i64 pc] w fun e w' => e = .returned (.bool r) ∧ SB w0 w' (FO p s' :: L) := by
  unfold fGo at h
  split at h
  · rename_i h1
    simp only [Prod.mk.injEq] at h
    obtain ⟨rfl, rfl⟩ := h
    exact frGoNo hS pc (last_none h1)
  · rename_i x h1
    simp only [Prod.mk.injEq] at h
    obtain ⟨rfl, rfl⟩ := h
    exact frGoOk hS (last_some h1) pc
theorem noL {s : FS} {i : Int} {x : Fm} (h1 : s.fr.getLast? = some x) (h2 : ¬ (0 ≤ i ∧ i < (x.loc.length : Int))) : ¬ hasL s i := by
  rintro ⟨fr0, y, hy, h3⟩
  rw [hy, List.getLast?_concat] at h1
  injection h1 with h1
  subst h1
  exact h2 h3
theorem noL0 {s : FS} {i : Int} (h1 : s.fr.getLast? = none) : ¬ hasL s i := by
  rintro ⟨fr0, y, hy, h3⟩
  rw [hy, List.getLast?_concat] at h1
  cases h1
theorem fraGet (hS : SB w0 w (FO p s :: L)) (i : Int) {x : Int} {r : Bool} (h : fGet s i = (x, r)) :
    Calls Try.prog 18 #[.pointer (some ⟨p, 0, none⟩), .int .i64 i] w fun e w' => e = .returned (.tuple #[.int .u64 x, .bool r]) ∧ SB w0 w' (FO p s :: L) := by
  unfold fGet at h
  split at h
  · rename_i h1
    simp only [Prod.mk.injEq] at h
    obtain ⟨rfl, rfl⟩ := h
    exact frGetNo hS i (noL0 h1)
  · rename_i y h1
    split at h
    · rename_i h2
      obtain ⟨k, rfl⟩ := Int.eq_ofNat_of_zero_le h2.1
      have h3 : k < y.loc.length := by omega
      simp only [Prod.mk.injEq, Int.toNat_natCast] at h
      obtain ⟨rfl, rfl⟩ := h
      rw [show y.loc.getD k 0 = y.loc[k] by rw [List.getD_eq_getElem?_getD, List.getElem?_eq_getElem h3]; rfl]
      exact frGetOk hS (last_some h1) k h3
    · rename_i h2
      simp only [Prod.mk.injEq] at h
      obtain ⟨rfl, rfl⟩ := h
      exact frGetNo hS i (noL h1 h2)
theorem fraSet (hS : SB w0 w (FO p s :: L)) (i u : Int) {s' : FS} {r : Bool} (h : fSet s i u = (s', r)) :
    Calls Try.prog 17 #[.pointer (some ⟨p, 0, none⟩), .int .i64 i, .int .u64 u] w fun e w' => e = .returned (.bool r) ∧ SB w0 w' (FO p s' :: L) := by
  unfold fSet at h
  split at h
  · rename_i h1
    simp only [Prod.mk.injEq] at h
    obtain ⟨rfl, rfl⟩ := h
    exact frSetNo hS i u (noL0 h1)
  · rename_i y h1
    split at h
    · rename_i h2
      obtain ⟨k, rfl⟩ := Int.eq_ofNat_of_zero_le h2.1
      have h3 : k < y.loc.length := by omega
      simp only [Prod.mk.injEq, Int.toNat_natCast] at h
      obtain ⟨rfl, rfl⟩ := h
      exact frSetOk hS (last_some h1) k h3 u
    · rename_i h2
      simp only [Prod.mk.injEq] at h
      obtain ⟨rfl, rfl⟩ := h
      exact frSetNo hS i u (noL h1 h2)
theorem fraDepth (hS : SB w0 w (FO p s :: L)) : Calls Try.prog 13 #[.pointer (some ⟨p, 0, none⟩)] w fun e w' => e = .returned (.int .i64 (s.fr.length : Int)) ∧ SB w0 w' (FO p s :: L) := by
  obtain ⟨v, z, hz, hk, h1⟩ := hS.open_
  have hb := h1.blk
  have hzl : z.length = s.fr.length := by have := congrArg List.length hz; simpa using this
  have hn : w.cell? ⟨p, 257, none⟩ = some (.int .i64 (s.fr.length : Int)) := by rw [fsC_b _ _ _ hb 257 (by omega), ← hzl]; rfl
  exact (frDepth p _ w hn).mono (fun e w' h => ⟨h.1, hS.below (drawn_below h.2)⟩)
theorem fraPush (hS : SB w0 w (FO p s :: L)) (A : Option Addr) (c : Nat) (l : List Int) (hC : Kd.C (Kd.int .u64) w A l.length l) (hc : l.length ≤ c) (hl : s.v.length + l.length ≤ 1000000) :
    Calls Try.prog 11 #[.pointer (some ⟨p, 0, none⟩), .slice A l.length c] w fun e w' => e = .returned (.tuple #[]) ∧ SB w0 w' (FO p (fPush s l) :: L) := frPush hS A c l hC hc hl
end
end Go.Proofs.Ytbbgkelcdooabaa.G
