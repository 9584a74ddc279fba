/- append onto a row of the call's own, and onto an object's row, side by side with what else is held. -/
import Derived.Test.YtbjglicdamenhaaHold
namespace Go.Proofs.Ytbjglicdamenhaa.G
open Go.RowKit Go.Proofs.YtbjglicdamenhaaW.PrintWords Go.Proofs.YtbjglicdamenhaaW.PrintLast Go.Proofs.YtbjglicdamenhaaW.PrintMore
set_option linter.unusedVariables false
/-- The head's blocks, and the way back. -/
theorem SB.frame {w0 W : World} {A : As} {L : List As} (h : SB w0 W (A :: L)) : ∃ F, A.P W F ∧ (∀ k, F k → w0.heap.size ≤ k) ∧ ∀ (w1 : World) (A' : As) (F' : Nat → Prop), A'.P w1 F' → Fr W w1 F → (∀ k, F' k → F k ∨ W.heap.size ≤ k) → SB w0 w1 (A' :: L) := by
  obtain ⟨h1, F, ⟨F1, F2, ha, hl, hd, he⟩, hF⟩ := h
  refine ⟨F1, ha, fun k hk => hF k ((he k).2 (.inl hk)), fun w1 A' F' ha' hf hF' => ?_⟩
  refine ⟨h1.trans (hf.to_below h1.size (fun k hk => hF k ((he k).2 (.inl hk)))), fun k => F' k ∨ F2 k, ⟨F', F2, ha', hl.mv (fun k hk => hf.block k (hl.lt k hk) (fun h1 => hd k h1 hk)), fun k hk h2 => ?_, fun k => Iff.rfl⟩, fun k hk => ?_⟩
  · rcases hF' k hk with h | h
    · exact hd k h h2
    · have := hl.lt k h2; omega
  · rcases hk with hk | hk
    · rcases hF' k hk with h | h
      · exact hF k ((he k).2 (.inl h))
      · have := h1.size; omega
    · exact hF k ((he k).2 (.inr hk))
section
variable {P : Program} {ops : Array Oper} {rest : List Oper} {o : Oper} {a : Act} {Q : Exit → Act → World → Prop} {α : Type} {d : Kd α}
theorem row_grown {w0 W w1 : World} {L : List As} {e : Nat} {v v1 : Value} {xs zs : List α} {F : Nat → Prop} (hF : (Row d e v xs).P W F) (K : ∀ (w1 : World) (A' : As) (F' : Nat → Prop), A'.P w1 F' → Fr W w1 F → (∀ k, F' k → F k ∨ W.heap.size ≤ k) → SB w0 w1 (A' :: L))
    (hR : d.R e w1 0 (fun k => F k ∨ W.heap.size ≤ k) v1 zs) (hg : W.grownBy w1 v.ownBlock) : SB w0 w1 (Row d e v1 zs :: L) :=
  K w1 (Row d e v1 zs) (fun k => (F k ∨ W.heap.size ≤ k) ∧ k < w1.heap.size) ⟨Kd.R_mono (Kd.R_bound hR) (fun k hk => ⟨hk.1, hk.2.2.1⟩), fun k hk => hk.2⟩ ((Fr.refl W F).grown hg (fun k hk => .inl (hF.1.1 k hk))) (fun k hk => hk.1)
/-- append(v, ys...), v the head's row. -/
theorem SB.appRows {w0 W : World} {L : List As} {e : Nat} {v : Value} {xs ys : List α} {A : Option Addr} {m c : Nat} (HS : SB w0 W (Row d e v xs :: L)) (hgd : o.guard = none) (s x : Operand) (t : TypeId) (z : Value) (bytes : Nat)
    (ho : o.op = .call { callee := .builtin .append, args := #[s, x], argTypes := #[t, t] })
    (ht : P.underlying t = some (.slice e)) (hinfo : (P.info? e).map (fun i => (i.zero, i.size, i.bytes)) = some (some z, d.sz, bytes)) (hz : z.cells.size = d.sz) (hs0 : 0 < d.sz) (hb0 : 0 < bytes)
    (hs : a.eval s = v) (hx : a.eval x = .slice A m c) {Rr : α → List Value → Prop} (hKM : ∀ x cs, Rr x cs → d.M W 0 (fun _ => False) x cs)
    (HR : ReadsRow Rr d.sz W A m ys) (hl : (xs.length + m) * bytes ≤ 140737488355328)
    (h : ∀ v1 w1, SB w0 w1 (Row d e v1 (xs ++ ys) :: L) → wpList P ops Q rest (a.put o.dst v1) w1) :
    wpList P ops Q (o :: rest) a W := by
  obtain ⟨F, hF, hge, K⟩ := HS.frame
  refine Kd.R_append_rows d (w0 := W) 0 hgd s x t e z bytes ho ht hinfo hz hs0 hb0 v xs ys A m c (fun k => F k ∨ W.heap.size ≤ k) (fun _ => False) hs hx (Kd.R_mono hF.1 (fun k hk => .inl hk)) HR hKM (fun _ h => h.elim) (fun _ h => .inr h) (Below.refl 0 W) (Nat.zero_le _) hl ?_
  intro v1 w1 hR _ hg _
  exact h v1 w1 (row_grown hF K hR hg)
/-- append(v, y), v the head's row: behind the literal that holds y. -/
theorem SB.app1 {w0 W : World} {L : List As} {e : Nat} {v : Value} {xs : List α} {y : α} {cs : List Value} (HS : SB w0 W (Row d e v xs :: L)) (hgd : o.guard = none) (s x : Operand) (t : TypeId) (z : Value) (bytes : Nat)
    (ho : o.op = .call { callee := .builtin .append, args := #[s, x], argTypes := #[t, t] })
    (ht : P.underlying t = some (.slice e)) (hinfo : (P.info? e).map (fun i => (i.zero, i.size, i.bytes)) = some (some z, d.sz, bytes)) (hz : z.cells.size = d.sz) (hs0 : 0 < d.sz) (hb0 : 0 < bytes)
    (hs : a.eval s = v) (hx : a.eval x = .slice (some ⟨W.heap.size, 0, none⟩) 1 1) (hp : d.M W 0 (fun _ => False) y cs) (hl : (xs.length + 1) * bytes ≤ 140737488355328)
    (h : ∀ v1 w1, SB w0 w1 (Row d e v1 (xs ++ [y]) :: L) → wpList P ops Q rest (a.put o.dst v1) w1) :
    wpList P ops Q (o :: rest) a (W.alloc (.cells cs.toArray e)) := by
  obtain ⟨F, hF, hge, K⟩ := HS.frame
  refine Kd.R_append d (w0 := W) 0 hgd s x t e z bytes ho ht hinfo hz hs0 hb0 v xs y cs (fun k => F k ∨ W.heap.size ≤ k) (fun _ => False) hs hx hp (fun _ h => h.elim) (fun _ h => .inr h) (Kd.R_mono hF.1 (fun k hk => .inl hk)) (Below.refl 0 W) (Nat.zero_le _) hl ?_
  intro v1 w1 hR _ hg _
  exact h v1 w1 (row_grown hF K hR hg)
theorem obj_grown {w0 W w1 : World} {L : List As} {e t p : Nat} {v v1 : Value} {xs zs : List α} {rs : List Value} {F : Nat → Prop} (hb : W.heap[p]? = some (.cells (v :: rs).toArray t (0, 0))) (hR0 : d.R e W 0 (fun k => F k ∧ k ≠ p) v xs) (hp : F p)
    (K : ∀ (w1 : World) (A' : As) (F' : Nat → Prop), A'.P w1 F' → Fr W w1 F → (∀ k, F' k → F k ∨ W.heap.size ≤ k) → SB w0 w1 (A' :: L))
    (hR : d.R e w1 0 (fun k => (F k ∧ k ≠ p) ∨ W.heap.size ≤ k) v1 zs) (hg : W.grownBy w1 v.ownBlock) :
    w1.heap[p]? = some (.cells (v :: rs).toArray t (0, 0)) ∧ SB w0 (w1.setCell ⟨p, 0, none⟩ v1) (ObR d e t p zs rs :: L) := by
  have hpl := blk_lt hb
  have hb1 : w1.heap[p]? = some (.cells (v :: rs).toArray t (0, 0)) := by rw [hg.block p hpl (fun he => (hR0.1 p he.symm).2 rfl)]; exact hb
  have hne : ∀ k, ((F k ∧ k ≠ p) ∨ W.heap.size ≤ k) → k ≠ p := fun k hk => by
    rcases hk with hk | hk
    · exact hk.2
    · omega
  refine ⟨hb1, K _ (ObR d e t p zs rs) (fun k => (F k ∨ W.heap.size ≤ k) ∧ k < w1.heap.size) ⟨v1, ?_, ?_, ⟨.inl hp, blk_lt hb1⟩, fun k hk => by simpa [World.setCell] using hk.2⟩ (((Fr.refl W F).grown hg (fun k hk => .inl (hR0.1 k hk).1)).setCell (p := ⟨p, 0, none⟩) (.inl hp) _) (fun k hk => hk.1)⟩
  · exact blk_set hb1 0 v1
  · exact Kd.R_far (Kd.R_mono (Kd.R_bound hR) (fun k hk => ⟨⟨hk.1.elim (fun h => .inl h.1) .inr, hk.2.2.1⟩, hne k hk.1⟩)) (fun k hk => hk.2) _
/-- append(p.l, ys...), p.l the object's row: to be stored back. -/
theorem SB.appObj {w0 W : World} {L : List As} {e p tp : Nat} {v : Value} {xs ys : List α} {rs : List Value} {A : Option Addr} {m c : Nat} (HS : SB w0 W (ObR d e tp p xs rs :: L)) (hv : W.cell? ⟨p, 0, none⟩ = some v) (hgd : o.guard = none) (s x : Operand) (t : TypeId) (z : Value) (bytes : Nat)
    (ho : o.op = .call { callee := .builtin .append, args := #[s, x], argTypes := #[t, t] })
    (ht : P.underlying t = some (.slice e)) (hinfo : (P.info? e).map (fun i => (i.zero, i.size, i.bytes)) = some (some z, d.sz, bytes)) (hz : z.cells.size = d.sz) (hs0 : 0 < d.sz) (hb0 : 0 < bytes)
    (hs : a.eval s = v) (hx : a.eval x = .slice A m c) {Rr : α → List Value → Prop} (hKM : ∀ x cs, Rr x cs → d.M W 0 (fun _ => False) x cs)
    (HR : ReadsRow Rr d.sz W A m ys) (hl : (xs.length + m) * bytes ≤ 140737488355328)
    (h : ∀ v1 w1 A1 c1, v1 = .slice A1 (xs ++ ys).length c1 → w1.heap[p]? = some (.cells (v :: rs).toArray tp (0, 0)) → SB w0 (w1.setCell ⟨p, 0, none⟩ v1) (ObR d e tp p (xs ++ ys) rs :: L) → wpList P ops Q rest (a.put o.dst v1) w1) :
    wpList P ops Q (o :: rest) a W := by
  obtain ⟨F, hF, hge, K⟩ := HS.frame
  obtain ⟨v', hb, hR, hp, hlt⟩ := hF
  obtain rfl : v' = v := by
    have h1 : W.cell? ⟨p, 0, none⟩ = some v' := (blk_cell hb 0).trans rfl
    rw [h1] at hv
    exact Option.some.inj hv
  refine Kd.R_append_rows d (w0 := W) 0 hgd s x t e z bytes ho ht hinfo hz hs0 hb0 v' xs ys A m c (fun k => (F k ∧ k ≠ p) ∨ W.heap.size ≤ k) (fun _ => False) hs hx (Kd.R_mono hR (fun k hk => .inl hk)) HR hKM (fun _ h => h.elim) (fun _ h => .inr h) (Below.refl 0 W) (Nat.zero_le _) hl ?_
  intro v1 w1 hR1 _ hg _
  obtain ⟨h1, h2⟩ := obj_grown hb hR hp K hR1 hg
  obtain ⟨A1, c1, e1, _⟩ := Kd.R_reads hR1
  exact h v1 w1 A1 c1 e1 h1 h2
/-- append(p.l, y): behind the literal that holds y. -/
theorem SB.appObj1 {w0 W : World} {L : List As} {e p tp : Nat} {v : Value} {xs : List α} {y : α} {cs : List Value} {rs : List Value} (HS : SB w0 W (ObR d e tp p xs rs :: L)) (hv : W.cell? ⟨p, 0, none⟩ = some v) (hgd : o.guard = none) (s x : Operand) (t : TypeId) (z : Value) (bytes : Nat)
    (ho : o.op = .call { callee := .builtin .append, args := #[s, x], argTypes := #[t, t] })
    (ht : P.underlying t = some (.slice e)) (hinfo : (P.info? e).map (fun i => (i.zero, i.size, i.bytes)) = some (some z, d.sz, bytes)) (hz : z.cells.size = d.sz) (hs0 : 0 < d.sz) (hb0 : 0 < bytes)
    (hs : a.eval s = v) (hx : a.eval x = .slice (some ⟨W.heap.size, 0, none⟩) 1 1) (hp : d.M W 0 (fun _ => False) y cs) (hl : (xs.length + 1) * bytes ≤ 140737488355328)
    (h : ∀ v1 w1 A1 c1, v1 = .slice A1 (xs.length + 1) c1 → w1.heap[p]? = some (.cells (v :: rs).toArray tp (0, 0)) → SB w0 (w1.setCell ⟨p, 0, none⟩ v1) (ObR d e tp p (xs ++ [y]) rs :: L) → wpList P ops Q rest (a.put o.dst v1) w1) :
    wpList P ops Q (o :: rest) a (W.alloc (.cells cs.toArray e)) := by
  obtain ⟨F, hF, hge, K⟩ := HS.frame
  obtain ⟨v', hb, hR, hp0, hlt⟩ := hF
  obtain rfl : v' = v := by
    have h1 : W.cell? ⟨p, 0, none⟩ = some v' := (blk_cell hb 0).trans rfl
    rw [h1] at hv
    exact Option.some.inj hv
  refine Kd.R_append d (w0 := W) 0 hgd s x t e z bytes ho ht hinfo hz hs0 hb0 v' xs y cs (fun k => (F k ∧ k ≠ p) ∨ W.heap.size ≤ k) (fun _ => False) hs hx hp (fun _ h => h.elim) (fun _ h => .inr h) (Kd.R_mono hR (fun k hk => .inl hk)) (Below.refl 0 W) (Nat.zero_le _) hl ?_
  intro v1 w1 hR1 _ hg _
  obtain ⟨h1, h2⟩ := obj_grown hb hR hp0 K hR1 hg
  obtain ⟨A1, c1, e1, _⟩ := Kd.R_reads hR1
  exact h v1 w1 A1 c1 (by rw [e1, List.length_append]; rfl) h1 h2
end
/-- The world of a cut object: its blocks, and the way back. -/
theorem ObR.open_ {α : Type} {d : Kd α} {e t p : Nat} {xs : List α} {rs : List Value} {w : World} {F : Nat → Prop} (h : (ObR d e t p xs rs).P w F) :
    ∃ A c, w.heap[p]? = some (.cells (.slice A xs.length c :: rs).toArray t (0, 0)) ∧ d.R e w 0 (fun k => F k ∧ k ≠ p) (.slice A xs.length c) xs ∧ xs.length ≤ c ∧ d.C w A xs.length xs ∧ F p ∧ ∀ k, F k → k < w.heap.size := by
  obtain ⟨v, hb, hR, hp, hl⟩ := h
  obtain ⟨A, c, rfl, hc, hC⟩ := Kd.R_reads hR
  exact ⟨A, c, hb, hR, hc, hC, hp, hl⟩
/-- A new object, with no row yet. -/
theorem SB.newObj {w0 w : World} {L : List As} {α : Type} {d : Kd α} {e t : Nat} (h : SB w0 w L) (rs : List Value) : SB w0 (w.alloc (.cells (.slice none 0 0 :: rs).toArray t)) (ObR d e t w.heap.size [] rs :: L) :=
  h.new (below_alloc (Below.refl _ _) _) (A := ObR d e t w.heap.size [] rs) (F' := fun k => k = w.heap.size) ⟨.slice none 0 0, heap_alloc_new w _, Kd.R_nil _ _ _ _ _, rfl, fun k hk => by rw [hk]; simp⟩ (fun k hk => by omega)
/-- A row becomes an object's. -/
theorem SB.wrap {w0 w : World} {L : List As} {α : Type} {d : Kd α} {e t : Nat} {v : Value} {xs : List α} (h : SB w0 w (Row d e v xs :: L)) (rs : List Value) : SB w0 (w.alloc (.cells (v :: rs).toArray t)) (ObR d e t w.heap.size xs rs :: L) := by
  obtain ⟨F, hF, hge, K⟩ := h.frame
  refine K _ (ObR d e t w.heap.size xs rs) (fun k => F k ∨ k = w.heap.size) ⟨v, heap_alloc_new w _, ?_, .inr rfl, fun k hk => ?_⟩ (Fr.of_below (below_alloc (Below.refl _ _) _)) (fun k hk => hk.elim .inl (fun h => .inr (by omega)))
  · exact Kd.R_mono (Kd.R_alloc hF.1 _) (fun k hk => ⟨.inl hk, by have := hF.2 k hk; omega⟩)
  · rcases hk with hk | hk
    · have := hF.2 k hk; simp; omega
    · rw [hk]; simp
/-- A literal of numbers. -/
theorem SB.lit {w0 w : World} {L : List As} {k : IntKind} {e : Nat} (h : SB w0 w L) (xs : List Int) (hl : xs.length ≤ 1000000) : SB w0 (w.alloc (.cells (encs (Value.int k) xs).toArray e)) (Row (Kd.int k) e (.slice (some ⟨w.heap.size, 0, none⟩) xs.length xs.length) xs :: L) := by
  refine SB.new h (w1 := w.alloc (.cells (encs (Value.int k) xs).toArray e)) (below_alloc (Below.refl _ _) _) (A := Row (Kd.int k) e (.slice (some ⟨w.heap.size, 0, none⟩) xs.length xs.length) xs) (F' := fun k => k = w.heap.size) ⟨?_, fun k hk => by rw [hk]; simp⟩ (fun k hk => by omega)
  refine Kd.R_of_own (h1 := fun _ => rfl) ?_ (fun k hk => by simp [Value.ownBlock] at hk; exact hk.symm)
  refine ⟨by rw [encs_length, Nat.mul_one], .inr ⟨w.heap.size, xs.length, _, rfl, Nat.zero_le _, heap_alloc_new w _, Nat.le_refl _, by unfold maxLen; omega, by simp [encs], ?_⟩⟩
  rw [List.toList_toArray, List.take_of_length_le (by rw [encs_length]; omega)]
theorem SB.readRow {w0 w : World} {L : List As} {α : Type} {d : Kd α} {e : Nat} (A : Option Addr) (n c : Nat) {l : List α} {U : List α → List As} [Has (fun l => Row d e (.slice A n c) l) L l U] (h : SB w0 w L) : d.C w A l.length l ∧ n = l.length ∧ l.length ≤ c := by
  obtain ⟨R, h1, _⟩ := h.at_ (mk := fun l => Row d e (.slice A n c) l)
  obtain ⟨A', c', he, hc, hC⟩ := h1.reads
  injection he with e1 e2 e3
  subst e1
  exact ⟨hC, e2, by omega⟩
end Go.Proofs.Ytbjglicdamenhaa.G
