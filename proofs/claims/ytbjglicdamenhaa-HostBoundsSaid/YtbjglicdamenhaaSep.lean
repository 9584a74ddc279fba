/- What is side by side, more: boxes, rows read, rows of many; append in regions. -/
import Derived.Test.YtbjglicdamenhaaZer
import Derived.Test.YtbjglicdamenhaaFld
import Derived.Test.YtbjglicdamenhaaMemP
namespace Go.Proofs.Ytbjglicdamenhaa.G
open Go.RowKit Go.Proofs.YtbjglicdamenhaaW.PrintWords Go.Proofs.YtbjglicdamenhaaW.PrintLast Go.Proofs.YtbjglicdamenhaaW.PrintMore
set_option linter.unusedVariables false
set_option linter.unusedSimpArgs false
theorem drawn_n (w : World) (n : Nat) : Drawn0 w (w.drewN n) := ⟨n, rfl⟩
theorem drawn_ex {w w' : World} (h : Drawn0 w w') : ∃ m, w' = w.drewN m := by
  obtain ⟨n, rfl⟩ := h
  exact ⟨n, rfl⟩
def Sep (L : List As) : As := ⟨SL L, SL.lt, SL.mv⟩
theorem SL.flat {A : As} {M L : List As} {w : World} {F : Nat → Prop} : SL (Sep (A :: M) :: L) w F ↔ SL (A :: Sep M :: L) w F := by
  constructor
  · rintro ⟨F1, F2, ⟨F3, F4, ha, hm, hd3, he3⟩, hl, hd, he⟩
    refine ⟨F3, fun k => F4 k ∨ F2 k, ha, ⟨F4, F2, hm, hl, fun k h4 h2 => hd k ((he3 k).2 (.inr h4)) h2, fun k => Iff.rfl⟩, fun k h3 h => h.elim (fun h4 => hd3 k h3 h4) (fun h2 => hd k ((he3 k).2 (.inl h3)) h2), fun k => ?_⟩
    rw [he k, he3 k, or_assoc]
  · rintro ⟨F1, F2, ha, ⟨F3, F4, hm, hl, hd3, he3⟩, hd, he⟩
    refine ⟨fun k => F1 k ∨ F3 k, F4, ⟨F1, F3, ha, hm, fun k h1 h3 => hd k h1 ((he3 k).2 (.inl h3)), fun k => Iff.rfl⟩, hl, fun k h h4 => h.elim (fun h1 => hd k h1 ((he3 k).2 (.inr h4))) (fun h3 => hd3 k h3 h4), fun k => ?_⟩
    rw [he k, he3 k, or_assoc]
theorem SL.flat0 {L : List As} {w : World} {F : Nat → Prop} : SL (Sep [] :: L) w F ↔ SL L w F := by
  constructor
  · rintro ⟨F1, F2, h1, hl, hd, he⟩
    exact hl.congr (fun k => (he k).trans ⟨fun h => h.elim (fun h => absurd h (h1 k)) id, .inr⟩)
  · intro h
    exact ⟨fun _ => False, F, fun _ h => h, h, fun _ h => h.elim, fun k => ⟨.inr, fun h => h.elim False.elim id⟩⟩
theorem SB.sep {w0 w : World} {A : As} {M L : List As} : SB w0 w (Sep (A :: M) :: L) ↔ SB w0 w (A :: Sep M :: L) :=
  ⟨fun ⟨h, F, hl, hF⟩ => ⟨h, F, SL.flat.1 hl, hF⟩, fun ⟨h, F, hl, hF⟩ => ⟨h, F, SL.flat.2 hl, hF⟩⟩
theorem SB.sep0 {w0 w : World} {L : List As} : SB w0 w (Sep [] :: L) ↔ SB w0 w L :=
  ⟨fun ⟨h, F, hl, hF⟩ => ⟨h, F, SL.flat0.1 hl, hF⟩, fun ⟨h, F, hl, hF⟩ => ⟨h, F, SL.flat0.2 hl, hF⟩⟩
theorem SL.cons_iff {A : As} {L L' : List As} {w : World} (h : ∀ F, SL L w F ↔ SL L' w F) (F : Nat → Prop) : SL (A :: L) w F ↔ SL (A :: L') w F :=
  ⟨fun ⟨F1, F2, ha, hl, hd, he⟩ => ⟨F1, F2, ha, (h F2).1 hl, hd, he⟩, fun ⟨F1, F2, ha, hl, hd, he⟩ => ⟨F1, F2, ha, (h F2).2 hl, hd, he⟩⟩
theorem SL.sepN : ∀ (M : List As) {L : List As} {w : World} (F : Nat → Prop), SL (Sep M :: L) w F ↔ SL (M ++ L) w F
  | [], _, _, _ => SL.flat0
  | _ :: M, _, _, F => SL.flat.trans (SL.cons_iff (fun F => SL.sepN M F) F)
theorem SB.sepN {w0 w : World} {M L : List As} : SB w0 w (Sep M :: L) ↔ SB w0 w (M ++ L) :=
  ⟨fun ⟨h, F, hl, hF⟩ => ⟨h, F, (SL.sepN M F).1 hl, hF⟩, fun ⟨h, F, hl, hF⟩ => ⟨h, F, (SL.sepN M F).2 hl, hF⟩⟩
theorem SB.set1 {w0 w : World} {L : List As} {p t : Nat} {cs : Array Value} (h : SB w0 w (Box p cs t :: L)) (i : Nat) (v : Value) : SB w0 (w.setCell ⟨p, i, none⟩ v) (Box p (cs.setIfInBounds i v) t :: L) := by
  obtain ⟨F, hF, hge, K⟩ := h.frame
  have hp : F p := (hF.2 p).2 rfl
  exact K _ (Box p (cs.setIfInBounds i v) t) F ⟨blk_set hF.1 i v, hF.2⟩ ((Fr.refl w F).setCell (p := ⟨p, i, none⟩) (.inl hp) v) (fun k hk => .inl hk)
theorem SB.blk {w0 w : World} {L : List As} {p t : Nat} {cs : Array Value} (h : SB w0 w (Box p cs t :: L)) : w.heap[p]? = some (.cells cs t (0, 0)) := by
  obtain ⟨F, hF, _⟩ := h.head
  exact hF.1
theorem SB.rowTake {α : Type} {d : Kd α} {e : Nat} {A : Option Addr} {n c : Nat} {xs : List α} {w0 w : World} {L : List As} (h : SB w0 w (Row d e (.slice A n c) xs :: L)) (m : Nat) (hm : m ≤ xs.length) : SB w0 w (Row d e (.slice A m c) (xs.take m) :: L) := by
  obtain ⟨F, hF, hge, K⟩ := h.frame
  exact K _ (Row d e (.slice A m c) (xs.take m)) F ⟨Kd.R_take hF.1 hm, hF.2⟩ (Fr.refl _ _) (fun k hk => .inl hk)
/-- The first assertions, by their numbers; the others of them are dropped. -/
theorem SB.pickL {w0 w : World} (Q : List As) {L : List As} (h : SB w0 w (Q ++ L)) (ix : List Nat) (hp : pickOk Q.length ix = true) : SB w0 w ((ix.map fun i => Q.getD i As.none) ++ L) := by
  have h1 := List.isPerm_iff.1 hp
  have h2 := h1.map (fun i => Q.getD i As.none)
  have h3 : (List.range Q.length).map (fun i => Q.getD i As.none) = Q := by
    apply List.ext_getElem
    · simp
    · intro i h1 h2
      simp [List.getElem?_eq_getElem h2]
  rw [h3, List.map_append] at h2
  have h4 := h.perm ((h2.symm).append_right L)
  rw [List.append_assoc] at h4
  have h5 := h4.perm ((List.perm_append_comm (l₁ := ((List.range Q.length).filter (fun i => !ix.contains i)).map fun i => Q.getD i As.none) (l₂ := L)).append_left _)
  rw [← List.append_assoc] at h5
  exact h5.prefix_
theorem SB.pick2 {w0 w : World} {A B : As} {L : List As} (h : SB w0 w (A :: B :: L)) (ix : List Nat) (hp : pickOk 2 ix = true := by kernel_rfl) : SB w0 w ((ix.map fun i => [A, B].getD i As.none) ++ L) := SB.pickL [A, B] h ix hp
theorem SB.pick3 {w0 w : World} {A B C : As} {L : List As} (h : SB w0 w (A :: B :: C :: L)) (ix : List Nat) (hp : pickOk 3 ix = true := by kernel_rfl) : SB w0 w ((ix.map fun i => [A, B, C].getD i As.none) ++ L) := SB.pickL [A, B, C] h ix hp
theorem SB.pick4 {w0 w : World} {A B C D : As} {L : List As} (h : SB w0 w (A :: B :: C :: D :: L)) (ix : List Nat) (hp : pickOk 4 ix = true := by kernel_rfl) : SB w0 w ((ix.map fun i => [A, B, C, D].getD i As.none) ++ L) := SB.pickL [A, B, C, D] h ix hp
theorem SB.pick5 {w0 w : World} {A B C D E : As} {L : List As} (h : SB w0 w (A :: B :: C :: D :: E :: L)) (ix : List Nat) (hp : pickOk 5 ix = true := by kernel_rfl) : SB w0 w ((ix.map fun i => [A, B, C, D, E].getD i As.none) ++ L) := SB.pickL [A, B, C, D, E] h ix hp
theorem SB.rot3 {w0 w : World} {A B C D : As} {L : List As} (h : SB w0 w (A :: B :: C :: D :: L)) : SB w0 w (D :: A :: B :: C :: L) :=
  h.perm ((((List.Perm.swap _ _ _).cons _).cons _).trans (((List.Perm.swap _ _ _).cons _).trans (.swap _ _ _)))
theorem SB.sepPush {w0 w : World} {A : As} {M L : List As} (h : SB w0 w (A :: Sep M :: L)) : SB w0 w (Sep (M ++ [A]) :: L) := by
  have h1 := SB.sepN.1 (SB.sep.2 h)
  refine SB.sepN.2 (h1.perm ?_)
  rw [List.append_assoc]
  exact List.perm_middle.symm
theorem SB.sepPop {w0 w : World} {A : As} {M L : List As} (h : SB w0 w (Sep (M ++ [A]) :: L)) : SB w0 w (A :: Sep M :: L) := by
  have h1 := SB.sepN.1 h
  refine SB.sep.1 (SB.sepN.2 (h1.perm ?_))
  rw [List.append_assoc]
  exact List.perm_middle
theorem blk_one (cs : Array Value) (i : Nat) (v : Value) (h : i < cs.size) : (cs.setIfInBounds i v)[i]? = some v := by
  rw [Array.getElem?_setIfInBounds, if_pos rfl, if_pos h]
theorem blk_have {w : World} {p t : Nat} {cs : Array Value} (hb : w.heap[p]? = some (.cells cs t (0, 0))) (i : Nat) (hi : i < cs.size) : w.cell? ⟨p, i, none⟩ = some cs[i] := by
  rw [blk_cell hb i, Array.getElem?_eq_getElem hi]
theorem SB.boxE {w0 w : World} {L : List As} (h : SB w0 w L) (cs : Array Value) (t : TypeId) : ∃ p, p = w.heap.size ∧ SB w0 (w.alloc (.cells cs t)) (Box p cs t :: L) := ⟨_, rfl, h.box cs t⟩
theorem SB.rowAt {w0 w : World} {L : List As} {k : IntKind} {e : Nat} {v : Value} {xs : List Int} (h : SB w0 w (Row (Kd.int k) e v xs :: L)) (i : Nat) (hi : i < xs.length) :
    ∃ g c, v = .slice (some ⟨g, 0, none⟩) xs.length c ∧ w.cell? ⟨g, i, none⟩ = some (.int k xs[i]) ∧ w.frozen? ⟨g, i, none⟩ = false ∧
      ∀ x, SB w0 (w.setCell ⟨g, i, none⟩ (.int k x)) (Row (Kd.int k) e (.slice (some ⟨g, 0, none⟩) xs.length c) (xs.set i x) :: L) := by
  obtain ⟨F, hF, hge, K⟩ := h.frame
  have ho := Kd.own_of_R hF.1
  rcases ho.2 with ⟨rfl, h0⟩ | ⟨g, cap, cur, rfl, hbg, hg, hnc, hcm, hcs, htake⟩
  · omega
  obtain ⟨A', c', e2, _, hC⟩ := Kd.R_reads hF.1
  injection e2 with q1 q2 q3
  obtain ⟨ad, e1, hcell⟩ := row_cell hC hi
  rw [← q1] at e1
  injection e1 with e1
  subst e1
  refine ⟨g, cap, rfl, ?_, blk_frozen hg i, fun x => ?_⟩
  · have : (⟨g, 0, none⟩ : Addr).add i = ⟨g, i, none⟩ := by unfold Addr.add; split <;> simp_all
    rw [this] at hcell
    exact hcell
  · have h2 := Kd.R_put hF.1 (i : Int) x
    simp only [Int.toNat_natCast] at h2
    exact K _ (Row (Kd.int k) e _ _) F ⟨h2.1, fun b hb => by have := hF.2 b hb; simpa [World.setCell] using this⟩ ((Fr.refl w F).setCell (p := ⟨g, i, none⟩) (.inl (hF.1.1 g rfl)) _) (fun b hb => .inl hb)
theorem calls_q {P : Program} {f : FuncId} {args : Array Value} {w : World} {v : Value} (h : Calls P f args w fun e w' => e = .returned v ∧ Drawn0 w w') : Calls P f args w fun e w' => e = .returned v ∧ ∃ m, w' = w.drewN m :=
  h.mono fun _ _ h => ⟨h.1, drawn_ex h.2⟩
/-- A row that is read: on blocks of its own, and on what w0 had. -/
def RdA {α : Type} (w0 : World) (d : Kd α) (A : Option Addr) (n : Nat) (xs : List α) : As where
  P w F := (∀ W : World, (∀ k, F k → W.heap[k]? = w.heap[k]?) → (∀ k, k < w0.heap.size → W.heap[k]? = w0.heap[k]?) → d.C W A n xs) ∧ ∀ k, F k → k < w.heap.size
  lt h := h.2
  mv {w w1 F} h hm := ⟨fun W h1 h2 => h.1 W (fun k hk => (h1 k hk).trans (hm k hk)) h2, fun k hk => by
    have h1 := h.2 k hk
    have h2 := hm k hk
    rw [Array.getElem?_eq_getElem h1] at h2
    exact (Array.getElem?_eq_some_iff.1 h2).1⟩
theorem SB.rd {α : Type} {d : Kd α} {A : Option Addr} {n : Nat} {xs : List α} {w0 w : World} {L : List As} (h : SB w0 w (RdA w0 d A n xs :: L)) : d.C w A n xs := by
  obtain ⟨F, hF, _⟩ := h.head
  exact hF.1 w (fun _ _ => rfl) (fun k hk => h.bel.block k hk)
theorem SB.toRd {α : Type} {d : Kd α} {e : Nat} {A : Option Addr} {n c : Nat} {xs : List α} {w0 w : World} {L : List As} (h : SB w0 w (Row d e (.slice A n c) xs :: L)) : SB w0 w (RdA w0 d A n xs :: L) := by
  obtain ⟨F, hF, hge, K⟩ := h.frame
  have hf := Kd.N_F (Kd.R_N hF.1)
  exact K w (RdA w0 d A n xs) F ⟨fun W h1 _ => hf W (fun k hk _ => h1 k hk), hF.2⟩ (Fr.refl _ _) (fun k hk => .inl hk)
theorem SB.rdArg {α : Type} {d : Kd α} {A : Option Addr} {n : Nat} {xs : List α} {w0 w : World} {L : List As} (hd : Kd.Heap d) (h : SB w0 w L) (hC : d.C w0 A n xs) : SB w0 w (RdA w0 d A n xs :: L) :=
  h.new (Below.refl _ _) (A := RdA w0 d A n xs) (F' := fun _ => False) ⟨fun W _ h2 => hd.C h2 hC, fun k hk => hk.elim⟩ (fun k hk => hk.elim)
/-- The store of many cells at once. -/
theorem SB.storeAll {P : Program} {ops : Array Oper} {rest : List Oper} {o : Oper} {a : Act} {Q : Exit → Act → World → Prop} {w0 W : World} {L : List As} {p : Nat} {cs : Array Value} {t0 : TypeId} (HS : SB w0 W (Box p cs t0 :: L))
    (hN : o.dst = none) (hgd : o.guard = none) (t : TypeId) (pa x : Operand) (ho : o.op = .store t pa x) (off : Nat) (haddr : a.eval pa = .pointer (some ⟨p, off, none⟩)) (u : Value) (seg : List Value) (hx : a.eval x = u) (hu : u.cells.toList = seg) (ht : (P.info? t).map (·.size) = some seg.length)
    (hfit : off + seg.length ≤ cs.size) (h1 : ∀ q ∈ seg, q.oneCell' = true)
    (h : ∀ w1 cs1, cs1.size = cs.size → cs1.toList = cs.toList.take off ++ seg ++ cs.toList.drop (off + seg.length) → SB w0 w1 (Box p cs1 t0 :: L) → wpList P ops Q rest a w1) : wpList P ops Q (o :: rest) a W := by
  obtain ⟨F, hF, hge, K⟩ := HS.frame
  obtain ⟨cs1, h3, h4, h5⟩ := setCells_row seg off W cs hF.1 hfit
  obtain ⟨s1, s2, s3, s4⟩ := setCells_same p seg off W
  have hrun := run_store_run (P := P) t u seg hF.1 hu ht hfit h1
  refine wpList_plain hgd fun Kk hK => ?_
  unfold Oper.wp execOp
  simp only [ho, haddr, hx, Sem.run_bind, Sem.run_pure, Result.andThen_ok, hrun]
  show Kk (a.put o.dst undef) _
  rw [hN]
  refine hK _ _ (h _ cs1 h4 h5 (K _ (Box p cs1 t0) F ⟨h3, hF.2⟩ ⟨s1, s2, s3, by rw [s4]; exact Nat.le_refl _, fun k _ hk => setCells_far seg off k (fun he => hk ((hF.2 k).2 he))⟩ (fun k hk => .inl hk)))
theorem addr0 (g k : Nat) : (⟨g, 0, none⟩ : Addr).add k = ⟨g, k, none⟩ := by unfold Addr.add; split <;> simp_all
theorem SB.rawAt {w0 w : World} {L : List As} {e sz n c : Nat} {A : Option Addr} {xs : List (List Value)} (h : SB w0 w (Row (Kd.raw sz) e (.slice A n c) xs :: L)) (i : Nat) (hi : i < xs.length) :
    ∃ g, A = some ⟨g, 0, none⟩ ∧ (∀ j (hj : j < sz), w.cell? ⟨g, i * sz + j, none⟩ = xs[i][j]?) ∧ (∀ j, w.frozen? ⟨g, j, none⟩ = false) ∧
      ∀ j u, j < sz → u.oneCell' = true → SB w0 (w.setCell ⟨g, i * sz + j, none⟩ u) (Row (Kd.raw sz) e (.slice (some ⟨g, 0, none⟩) n c) (xs.set i (xs[i].set j u)) :: L) := by
  obtain ⟨F, hF, hge, K⟩ := h.frame
  obtain ⟨hn, hnc, hC⟩ := Kd.R_reads' hF.1
  have hF1 := hF.1
  obtain ⟨hok, inner, ho, hr⟩ := hF1
  rcases ho.2 with ⟨hv, h0⟩ | ⟨g, cap, cur, hv, hb, hh, _⟩
  · injection hv with h1 h2 h3; omega
  injection hv with h1 h2 h3
  subst h1
  obtain ⟨ad, cs, e1, hcl, hK, hcc⟩ := Kd.C_get hC [] (i : Int) (by omega) (by omega)
  injection e1 with e1
  subst e1
  rw [Int.toNat_natCast, List.getD_eq_getElem?_getD, List.getElem?_eq_getElem hi] at hK
  obtain ⟨hcs, hlen, hone⟩ := hK
  simp only [Option.getD_some] at hcs
  subst hcs
  have hcell : ∀ j (hj : j < sz), w.cell? ⟨g, i * sz + j, none⟩ = xs[i][j]? := by
    intro j hj
    have hj2 : j < xs[i].length := by rw [hlen]; exact hj
    have := hcc j _ (List.getElem?_eq_getElem hj2)
    rw [List.getElem?_eq_getElem hj2, ← this, Int.toNat_natCast, addr0]
    rfl
  refine ⟨g, rfl, hcell, fun j => blk_frozen hh j, fun j u hj hu => ?_⟩
  have hseg := Kd.R_seg (okp := fun _ => False) hF.1 (i : Int) (by omega) (by omega) (c := xs[i]) (seg := [u]) (j := j) (x' := xs[i].set j u) hlen (fun j' u' hu' => by
    have hj2 : j' < xs[i].length := (List.getElem?_eq_some_iff.1 hu').1
    have hj3 : j' < sz := by rw [← hlen]; exact hj2
    show w.cell? ⟨g, i * sz + j', none⟩ = some u'
    rw [hcell j' hj3]; exact hu') (by show j + 1 ≤ sz; omega) ⟨by
      rw [List.set_eq_take_append_cons_drop, if_pos (by rw [hlen]; exact hj)]
      simp, by simp [hlen]; omega, fun q hq => by
      rcases List.mem_append.1 hq with hq | hq
      · rcases List.mem_append.1 hq with hq | hq
        · exact hone q (List.take_subset _ _ hq)
        · rw [List.mem_singleton.1 hq]; exact hu
      · exact hone q (List.drop_subset _ _ hq)⟩ (fun _ h => h.elim)
  rw [Int.toNat_natCast] at hseg
  have hFg : F g := hF.1.1 g rfl
  exact K _ (Row (Kd.raw sz) e _ _) F ⟨hseg.1, fun k hk => by have := hF.2 k hk; simpa [World.setCell] using this⟩ ((Fr.refl w F).setCell (p := ⟨g, i * sz + j, none⟩) (.inl hFg) _) (fun k hk => .inl hk)
section
variable {P : Program} {ops : Array Oper} {rest : List Oper} {o : Oper} {a : Act} {Q : Exit → Act → World → Prop} {Kc : Act → World → Prop} {α : Type} {d : Kd α}
/-- append(v, y), v the head's row, in a region that draws: behind the literal that holds y. -/
theorem SB.app1Step {w0 W : World} {L : List As} {e : Nat} {v : Value} {xs : List α} {y : α} {cs : List Value} (HS : SB w0 W (Row d e v xs :: L)) (hw : Region.wanted o (yielded ops a.tmps) = true) (s x : Operand) (t : TypeId) (z : Value) (bytes : Nat)
    (ho : o.op = .call { callee := .builtin .append, args := #[s, x], argTypes := #[t, t] })
    (ht : P.underlying t = some (.slice e)) (hinfo : (P.info? e).map (fun i => (i.zero, i.size, i.bytes)) = some (some z, d.sz, bytes)) (hz : z.cells.size = d.sz) (hs0 : 0 < d.sz) (hb0 : 0 < bytes)
    (hs : a.eval s = v) (hx : a.eval x = .slice (some ⟨W.heap.size, 0, none⟩) 1 1) (hp : d.M W 0 (fun _ => False) y cs) (hl : (xs.length + 1) * bytes ≤ 140737488355328)
    (h : ∀ v1 w1, SB w0 w1 (Row d e v1 (xs ++ [y]) :: L) → Kc (a.put o.dst v1) w1) :
    if Region.wanted o (yielded ops a.tmps) = true then Oper.wp P o a (W.alloc (.cells cs.toArray e)) Kc Q else Kc (a.put o.dst undef) (W.alloc (.cells cs.toArray e)) := by
  obtain ⟨F, hF, hge, K⟩ := HS.frame
  refine Kd.R_append_step d (w0 := W) 0 hw s x t e z bytes ho ht hinfo hz hs0 hb0 v xs y cs (fun k => F k ∨ W.heap.size ≤ k) (fun _ => False) hs hx hp (fun _ h => h.elim) (fun _ h => .inr h) (Kd.R_mono hF.1 (fun k hk => .inl hk)) (Below.refl 0 W) (Nat.zero_le _) hl ?_
  intro v1 w1 hR _ hg _
  exact h v1 w1 (row_grown hF K hR hg)
/-- append(v, y), v the head's row, where y holds what the second assertion says. -/
theorem SB.app1N {w0 W : World} {L : List As} {B : As} {e : Nat} {v : Value} {xs : List α} {y : α} {cs : List Value} (HS : SB w0 W (Row d e v xs :: B :: L)) (hgd : o.guard = none) (s x : Operand) (t : TypeId) (z : Value) (bytes : Nat)
    (ho : o.op = .call { callee := .builtin .append, args := #[s, x], argTypes := #[t, t] })
    (ht : P.underlying t = some (.slice e)) (hinfo : (P.info? e).map (fun i => (i.zero, i.size, i.bytes)) = some (some z, d.sz, bytes)) (hz : z.cells.size = d.sz) (hs0 : 0 < d.sz) (hb0 : 0 < bytes)
    (hs : a.eval s = v) (hx : a.eval x = .slice (some ⟨W.heap.size, 0, none⟩) 1 1) (hp : ∀ F, B.P W F → d.M W 0 F y cs) (hl : (xs.length + 1) * bytes ≤ 140737488355328)
    (h : ∀ v1 w1, SB w0 w1 (Row d e v1 (xs ++ [y]) :: L) → wpList P ops Q rest (a.put o.dst v1) w1) :
    wpList P ops Q (o :: rest) a (W.alloc (.cells cs.toArray e)) := by
  have HS2 : SB w0 W (Sep [Row d e v xs, B] :: L) := SB.sepN.2 HS
  obtain ⟨F, hF, hge, K⟩ := HS2.frame
  obtain ⟨F1, F2, hA, ⟨F3, F4, hB, h4, hd3, he3⟩, hd, he⟩ := hF
  have h32 : ∀ k, F3 k → F2 k := fun k hk => (he3 k).2 (.inl hk)
  refine Kd.R_append d (w0 := W) 0 hgd s x t e z bytes ho ht hinfo hz hs0 hb0 v xs y cs (fun k => F k ∨ W.heap.size ≤ k) F3 hs hx (hp F3 hB) (fun k hk => ⟨.inl ((he k).2 (.inr (h32 k hk))), fun hc => hd k (hA.1.1 k hc.symm) (h32 k hk)⟩) (fun _ h => .inr h) (Kd.R_mono hA.1 (fun k hk => .inl ((he k).2 (.inl hk)))) (Below.refl 0 W) (Nat.zero_le _) hl ?_
  intro v1 w1 hR _ hg _
  exact h v1 w1 (K w1 (Row d e v1 (xs ++ [y])) (fun k => (F k ∨ W.heap.size ≤ k) ∧ k < w1.heap.size) ⟨Kd.R_mono (Kd.R_bound hR) (fun k hk => ⟨hk.1, hk.2.2.1⟩), fun k hk => hk.2⟩ ((Fr.refl W F).grown hg (fun k hk => .inl ((he k).2 (.inl (hA.1.1 k hk))))) (fun k hk => hk.1))
/-- A literal of one element that holds what the head says. -/
theorem SB.lit1N {α : Type} {d : Kd α} {e : Nat} {w0 W : World} {B : As} {L : List As} {y : α} {cs : List Value} (HS : SB w0 W (B :: L)) (hp : ∀ F, B.P W F → d.M W 0 F y cs) : SB w0 (W.alloc (.cells cs.toArray e)) (Row d e (.slice (some ⟨W.heap.size, 0, none⟩) 1 1) [y] :: L) := by
  obtain ⟨F, hF, hge, K⟩ := HS.frame
  have hM := hp F hF
  have hlen := d.K_len (d.K_of_M hM)
  have hlt := B.lt hF
  refine K _ (Row d e (.slice (some ⟨W.heap.size, 0, none⟩) 1 1) [y]) (fun k => F k ∨ k = W.heap.size) ⟨⟨fun k hk => ?_, cs, ⟨?_, .inr ⟨W.heap.size, 1, _, rfl, Nat.zero_le _, heap_alloc_new W _, Nat.le_refl _, by unfold maxLen; omega, ?_, ?_⟩⟩, ?_, fun j p hj => ?_⟩, fun k hk => ?_⟩ (Fr.of_below (below_alloc (Below.refl _ _) _)) (fun k hk => hk.elim .inl (fun h => .inr (by omega)))
  · simp [Value.ownBlock] at hk
    exact .inr hk.symm
  · rw [hlen]; simp
  · simp [hlen]
  · rw [List.toList_toArray, List.take_of_length_le (by rw [hlen]; simp)]
  · rw [hlen]; simp
  · have hj0 : j = 0 := by
      rcases j with _ | j
      · rfl
      · simp at hj
    subst hj0
    simp at hj
    subst hj
    rw [Nat.zero_mul, List.drop_zero, List.take_of_length_le (by rw [hlen]; exact Nat.le_refl _)]
    refine d.M_mono (fun k hk => ⟨.inl hk, ?_⟩) (d.M_move (w1 := W.alloc (.cells cs.toArray e)) (fun k hk => (below_alloc (Below.refl W.heap.size W) (.cells cs.toArray e)).block k (hlt k hk)) hM)
    simp [Value.ownBlock]
    have := hlt k hk
    omega
  · rcases hk with hk | hk
    · have := hlt k hk; simp; omega
    · rw [hk]; simp
end
theorem SL.append {w : World} {L2 : List As} {F2 : Nat → Prop} (h2 : SL L2 w F2) : ∀ {L1 : List As} {F1 : Nat → Prop}, SL L1 w F1 → (∀ k, F1 k → ¬ F2 k) → SL (L1 ++ L2) w (fun k => F1 k ∨ F2 k)
  | [], F1, h1, _ => h2.congr (fun k => ⟨fun h => h.elim (fun h => absurd h (h1 k)) id, .inr⟩)
  | A :: L1, F1, ⟨Fa, Fl, ha, hl, hd, he⟩, hdd => ⟨Fa, fun k => Fl k ∨ F2 k, ha, SL.append h2 hl (fun k hk => hdd k ((he k).2 (.inr hk))), fun k hk h => h.elim (hd k hk) (hdd k ((he k).2 (.inl hk))), fun k => by show (F1 k ∨ F2 k) ↔ (Fa k ∨ (Fl k ∨ F2 k)); rw [he k, or_assoc]⟩
/-- What a call has made, beside what is held. -/
theorem SB.join {w0 w w1 : World} {L L1 : List As} (h : SB w0 w L) (h1 : SB w w1 L1) : SB w0 w1 (L1 ++ L) := by
  obtain ⟨hb, F, hl, hF⟩ := h
  obtain ⟨hb1, F1, hl1, hF1⟩ := h1
  refine ⟨hb.trans (hb1.mono hb.size), fun k => F1 k ∨ F k, SL.append (hl.mv (fun k hk => hb1.block k (hl.lt k hk))) hl1 (fun k hk h => by have := hF1 k hk; have := hl.lt k h; omega), fun k hk => hk.elim (fun h => Nat.le_trans hb.size (hF1 k h)) (hF k)⟩
/-- The head said in other words. -/
theorem SB.weak {A B : As} {w0 w : World} {L : List As} (h : SB w0 w (A :: L)) (hi : ∀ F, A.P w F → B.P w F) : SB w0 w (B :: L) := by
  obtain ⟨F, hF, hge, K⟩ := h.frame
  exact K w B F (hi F hF) (Fr.refl _ _) (fun k hk => .inl hk)
end Go.Proofs.Ytbjglicdamenhaa.G
