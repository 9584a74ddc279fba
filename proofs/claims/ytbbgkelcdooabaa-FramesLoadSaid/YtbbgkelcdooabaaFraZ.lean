/- The document's stacks beside the program's: their top frames, their frames read. -/
import Derived.Deep.DeepMust
import Derived.Test.YtbbgkelcdooabaaFraR
import Derived.Test.YtbbgkelcdooabaaFraY
namespace Go.Proofs.Ytbbgkelcdooabaa.G
open Go.RowKit Go.Proofs.YtbbgkelcdooabaaW.PrintWords Go.Proofs.YtbbgkelcdooabaaW.PrintLast Go.Proofs.YtbbgkelcdooabaaW.PrintMore
set_option linter.unusedVariables false
set_option linter.unusedSimpArgs false
theorem th_fm (x : Fm) : th (fmS x) = fmT x := rfl
/-- The frames of a document's stack, read. -/
theorem xo_frames {w0 w : World} {L : List As} {A : Option Addr} {n c : Nat} {z : List (Fm × Value)} (h : SB w0 w (Row (Kd.raw 4) 61 (.slice A n c) (z.map fm4) :: Sep (rowsOf z) :: L)) : Kd.C k61 w A n (z.map fun x => fmT x.1) ∧ n = z.length ∧ n ≤ c := by
  obtain ⟨A', c', e, hc, hC⟩ := h.reads
  injection e with e1 e2 e3
  subst e1
  subst e3
  rw [List.length_map] at e2 hc hC
  subst e2
  refine ⟨?_, rfl, hc⟩
  have hz : ∀ (j : Nat) (hj : j < z.length), ∃ A c, z[j].2 = .slice A z[j].1.loc.length c ∧ z[j].1.loc.length ≤ c ∧ Kd.C (Kd.int .u64) w A z[j].1.loc.length z[j].1.loc := by
    intro j hj
    have h2 := SB.sepN.1 h.swap
    have e2 : rowsOf z = rowsOf (z.take j) ++ Row (Kd.int .u64) 35 z[j].2 z[j].1.loc :: rowsOf (z.drop (j + 1)) := by
      have e3 : rowsOf z = rowsOf (z.take j ++ z[j] :: z.drop (j + 1)) := by rw [← List.drop_eq_getElem_cons hj, List.take_append_drop]
      rw [e3]
      show List.map _ _ = List.map _ _ ++ _ :: List.map _ _
      rw [List.map_append, List.map_cons]
    rw [e2, List.append_assoc, List.cons_append] at h2
    exact (h2.perm List.perm_middle).reads
  obtain ⟨q1, q2, q3⟩ := hC
  refine ⟨by rw [List.length_map], q2, fun hp => ?_⟩
  obtain ⟨ad, e, hcc⟩ := q3 hp
  refine ⟨ad, e, fun j p hj => ?_⟩
  have hjl : j < z.length := by
    rcases Nat.lt_or_ge j z.length with h1 | h1
    · exact h1
    · rw [List.getElem?_eq_none (by rw [List.length_map]; exact h1)] at hj; cases hj
  rw [List.getElem?_eq_getElem (by rw [List.length_map]; exact hjl), List.getElem_map] at hj
  injection hj with hj
  obtain ⟨c1, hl, ⟨hK, _, _⟩, hcell⟩ := hcc j (fm4 z[j]) (by rw [List.getElem?_eq_getElem (by rw [List.length_map]; exact hjl), List.getElem_map])
  obtain ⟨A1, c2, e2, hc2, hC2⟩ := hz j hjl
  refine ⟨c1, hl, ?_, hcell⟩
  rw [← hj, hK]
  unfold fm4
  rw [e2]
  exact k61_mk w (fmT z[j].1) hc2 hC2
/-- A literal of one element that holds what the head says. -/
theorem SB.lit1N {α : Type} {d : Kd α} {e : Nat} {w0 W : World} {B : As} {L : List As} {y : α} {cs : List Value} (HS : SB w0 W (B :: L)) (hp : ∀ F, B.P W F → d.M W 0 F y cs) : SB w0 (W.alloc (.cells cs.toArray e)) (Row d e (.slice (some ⟨W.heap.size, 0, none⟩) 1 1) [y] :: L) := by
  obtain ⟨F, hF, hge, K⟩ := HS.frame
  have hM := hp F hF
  have hlen := d.K_len (d.K_of_M hM)
  have hlt := B.lt hF
  refine K _ (Row d e (.slice (some ⟨W.heap.size, 0, none⟩) 1 1) [y]) (fun k => F k ∨ k = W.heap.size) ⟨⟨fun k hk => ?_, cs, ⟨?_, .inr ⟨W.heap.size, 1, _, rfl, Nat.zero_le _, heap_alloc_new W _, Nat.le_refl _, by unfold maxLen; omega, ?_, ?_⟩⟩, ?_, fun j p hj => ?_⟩, fun k hk => ?_⟩ (Fr.of_below (below_alloc (Below.refl _ _) _)) (fun k hk => hk.elim .inl (fun h => .inr (by omega)))
  · simp [Value.ownBlock] at hk
    exact .inr hk.symm
  · rw [hlen]; simp
  · simp [hlen]
  · rw [List.toList_toArray, List.take_of_length_le (by rw [hlen]; simp)]
  · rw [hlen]; simp
  · have hj0 : j = 0 := by
      rcases j with _ | j
      · rfl
      · simp at hj
    subst hj0
    simp at hj
    subst hj
    rw [Nat.zero_mul, List.drop_zero, List.take_of_length_le (by rw [hlen]; exact Nat.le_refl _)]
    refine d.M_mono (fun k hk => ⟨.inl hk, ?_⟩) (d.M_move (w1 := W.alloc (.cells cs.toArray e)) (fun k hk => (below_alloc (Below.refl W.heap.size W) (.cells cs.toArray e)).block k (hlt k hk)) hM)
    simp [Value.ownBlock]
    have := hlt k hk
    omega
  · rcases hk with hk | hk
    · have := hlt k hk; simp; omega
    · rw [hk]; simp
def fTop (s : FS) : Fm × Bool := match s.fr.getLast? with
  | none => (⟨0, 0, [], 0⟩, false)
  | some x => (x, true)
theorem fraTop {w0 w : World} {L : List As} {p : Nat} {s : FS} (hS : SB w0 w (FO p s :: L)) (hlc : ∀ f ∈ s.fr, f.loc.length ≤ 1000000) {x : Fm} {r : Bool} (h : fTop s = (x, r)) :
    Calls Try.prog 27 #[.pointer (some ⟨p, 0, none⟩)] w fun e w' => ∃ v, e = .returned (.tuple #[.agg #[.int .i64 x.f, .int .i64 x.pc, v, .int .i64 x.base], .bool r]) ∧ SB w0 w' (Row (Kd.int .u64) 35 v x.loc :: FO p s :: L) := by
  unfold fTop at h
  split at h
  · rename_i h1
    simp only [Prod.mk.injEq] at h
    obtain ⟨rfl, rfl⟩ := h
    exact (frTopNo hS (last_none h1)).mono (fun e w' h => ⟨_, h.1, SB.row h.2 (Below.refl _ _) (Kd.R_nil _ _ _ _ (fun _ => True))⟩)
  · rename_i y h1
    simp only [Prod.mk.injEq] at h
    obtain ⟨rfl, rfl⟩ := h
    exact frTopOk hS (last_some h1) (hlc _ (by rw [last_some h1]; simp))
theorem xTop {w0 w : World} {L : List As} {g : Nat} {s : FS} (hS : SB w0 w (XO g s :: L)) (hF : s.fr.length ≤ 64) (hlc : ∀ f ∈ s.fr, f.loc.length ≤ 1000000) {x : Fm} {r : Bool} (h : fTop s = (x, r)) :
    Calls Try.prog 28 #[.pointer (some ⟨g, 0, none⟩)] w fun e w' => ∃ v, e = .returned (.tuple #[.agg #[.int .i64 x.f, .int .i64 x.pc, v, .int .i64 x.base], .bool r]) ∧ SB w0 w' (Row (Kd.int .u64) 35 v x.loc :: XO g s :: L) := by
  unfold fTop at h
  split at h
  · rename_i h1
    simp only [Prod.mk.injEq] at h
    obtain ⟨rfl, rfl⟩ := h
    exact (xTopNo hS (last_none h1)).mono (fun e w' h => ⟨_, h.1, SB.row h.2 (Below.refl _ _) (Kd.R_nil _ _ _ _ (fun _ => True))⟩)
  · rename_i y h1
    simp only [Prod.mk.injEq] at h
    obtain ⟨rfl, rfl⟩ := h
    exact xTopOk hS hF (last_some h1) (hlc _ (by rw [last_some h1]; simp))
theorem fTop_loc {s : FS} (hlc : ∀ f ∈ s.fr, f.loc.length ≤ 1000000) : (fTop s).1.loc.length ≤ 1000000 := by
  unfold fTop
  split
  · simp
  · rename_i y h1
    exact hlc _ (by rw [last_some h1]; simp)
theorem fm_M61 {w : World} (x : Fm) {v : Value} (F : Nat → Prop) (h : (Row (Kd.int .u64) 35 v x.loc).P w F) : k61.M w 0 F (fmT x) [.int .i64 x.f, .int .i64 x.pc, v, .int .i64 x.base] := k61_mkM w 0 F (fmT x) h.1
end Go.Proofs.Ytbbgkelcdooabaa.G
