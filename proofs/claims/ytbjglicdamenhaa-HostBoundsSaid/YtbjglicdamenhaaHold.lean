/- A small logic of what a walk holds: assertions on blocks of their own, side by side (SB w0 w L: since w0 nothing of what was there has turned, and at w all of L hold, on blocks apart from each other, none of which w0 had). -/
import Derived.Test.YtbjglicdamenhaaReg
namespace Go.Proofs.Ytbjglicdamenhaa.G
open Go.RowKit Go.Proofs.YtbjglicdamenhaaW.PrintWords Go.Proofs.YtbjglicdamenhaaW.PrintLast Go.Proofs.YtbjglicdamenhaaW.PrintMore
set_option linter.unusedVariables false

/-- What has not turned between two worlds: all but the blocks F, and what is new. -/
structure Fr (w w' : World) (F : Nat → Prop) : Prop where
  os : w'.os = w.os
  tape : w'.tape = w.tape
  output : w'.output = w.output
  size : w.heap.size ≤ w'.heap.size
  block : ∀ k, k < w.heap.size → ¬ F k → w'.heap[k]? = w.heap[k]?
namespace Fr
variable {w W W2 : World} {F F2 : Nat → Prop}
theorem refl (w : World) (F : Nat → Prop) : Fr w w F := ⟨rfl, rfl, rfl, Nat.le_refl _, fun _ _ _ => rfl⟩
theorem of_below (h : Below w.heap.size w W) : Fr w W F := ⟨h.os, h.tape, h.output, h.size, fun k hk _ => h.block k hk⟩
theorem then_ (h : Fr w W F) (k : Fr W W2 F2) (hs : ∀ k, F2 k → F k ∨ w.heap.size ≤ k) : Fr w W2 F :=
  ⟨k.os.trans h.os, k.tape.trans h.tape, k.output.trans h.output, Nat.le_trans h.size k.size,
   fun i hi hn => (k.block i (Nat.lt_of_lt_of_le hi h.size) (fun h2 => (hs i h2).elim hn (fun h3 => by omega))).trans (h.block i hi hn)⟩
theorem below (h : Fr w W F) (hb : Below W.heap.size W W2) : Fr w W2 F := h.then_ (of_below (F := fun _ => False) hb) (fun _ hk => hk.elim)
theorem alloc (h : Fr w W F) (o : Obj) : Fr w (W.alloc o) F := h.below (below_alloc (Below.refl _ _) o)
theorem drew (h : Fr w W F) : Fr w W.drew F := ⟨h.os, h.tape, h.output, h.size, h.block⟩
theorem drewN (h : Fr w W F) (m : Nat) : Fr w (W.drewN m) F := ⟨h.os, h.tape, h.output, h.size, h.block⟩
theorem setCell (h : Fr w W F) {p : Addr} (hp : F p.block ∨ w.heap.size ≤ p.block) (u : Value) : Fr w (W.setCell p u) F :=
  h.then_ (F2 := fun k => k = p.block) ⟨rfl, rfl, rfl, by simp [World.setCell], fun i _ hn => Below.heap_setCell W p u i hn⟩ (fun k hk => by rw [hk]; exact hp)
theorem grown {row : Option Nat} (h : Fr w W F) (hg : W.grownBy W2 row) (hr : ∀ k, row = some k → F k ∨ w.heap.size ≤ k) : Fr w W2 F :=
  h.then_ (F2 := fun k => row = some k) ⟨hg.os, hg.tape, hg.output, hg.size, fun i hi hn => hg.block i hi (fun he => hn he.symm)⟩ hr
theorem mono (h : Fr w W F) (hs : ∀ k, F k → F2 k) : Fr w W F2 := ⟨h.os, h.tape, h.output, h.size, fun k hk hn => h.block k hk (fun hf => hn (hs k hf))⟩
theorem to_below {B : Nat} (h : Fr w W F) (hB : B ≤ w.heap.size) (hF : ∀ k, F k → B ≤ k) : Below B w W :=
  ⟨h.os, h.tape, h.output, h.size, fun k hk => h.block k (by omega) (fun hf => by have := hF k hf; omega)⟩
end Fr

/-- An assertion on a set of blocks. -/
structure As where
  P : World → (Nat → Prop) → Prop
  lt : ∀ {w F}, P w F → ∀ k, F k → k < w.heap.size
  mv : ∀ {w w1 : World} {F}, P w F → (∀ k, F k → w1.heap[k]? = w.heap[k]?) → P w1 F

/-- Assertions side by side. -/
def SL : List As → World → (Nat → Prop) → Prop
  | [], _, F => ∀ k, ¬ F k
  | A :: L, w, F => ∃ F1 F2 : Nat → Prop, A.P w F1 ∧ SL L w F2 ∧ (∀ k, F1 k → ¬ F2 k) ∧ (∀ k, F k ↔ (F1 k ∨ F2 k))
theorem SL.lt : ∀ {L : List As} {w : World} {F : Nat → Prop}, SL L w F → ∀ k, F k → k < w.heap.size
  | [], _, _, h, k, hk => absurd hk (h k)
  | A :: L, w, F, ⟨F1, F2, ha, hl, _, he⟩, k, hk => ((he k).1 hk).elim (fun h1 => A.lt ha k h1) (fun h2 => SL.lt hl k h2)
theorem SL.mv : ∀ {L : List As} {w w1 : World} {F : Nat → Prop}, SL L w F → (∀ k, F k → w1.heap[k]? = w.heap[k]?) → SL L w1 F
  | [], _, _, _, h, _ => h
  | A :: L, w, w1, F, ⟨F1, F2, ha, hl, hd, he⟩, hm => ⟨F1, F2, A.mv ha (fun k hk => hm k ((he k).2 (.inl hk))), SL.mv hl (fun k hk => hm k ((he k).2 (.inr hk))), hd, he⟩
theorem SL.congr {L : List As} {w : World} {F F' : Nat → Prop} (h : SL L w F) (hF : ∀ k, F' k ↔ F k) : SL L w F' := by
  cases L with
  | nil => exact fun k hk => h k ((hF k).1 hk)
  | cons A L => obtain ⟨F1, F2, ha, hl, hd, he⟩ := h; exact ⟨F1, F2, ha, hl, hd, fun k => (hF k).trans (he k)⟩

def SB (w0 w : World) (L : List As) : Prop := Below w0.heap.size w0 w ∧ ∃ F, SL L w F ∧ ∀ k, F k → w0.heap.size ≤ k
namespace SB
variable {w0 w w1 : World} {L : List As} {A A' B C D : As}
theorem start (w : World) : SB w w [] := ⟨Below.refl _ _, fun _ => False, fun _ h => h, fun _ h => h.elim⟩
theorem bel (h : SB w0 w L) : Below w0.heap.size w0 w := h.1
theorem size (h : SB w0 w L) : w0.heap.size ≤ w.heap.size := h.1.size
/-- Whatever turns nothing of what is there. -/
theorem below (h : SB w0 w L) (hb : Below w.heap.size w w1) : SB w0 w1 L := by
  obtain ⟨h1, F, hl, hF⟩ := h
  exact ⟨h1.trans (hb.mono h1.size), F, hl.mv (fun k hk => hb.block k (hl.lt k hk)), hF⟩
theorem alloc (h : SB w0 w L) (o : Obj) : SB w0 (w.alloc o) L := h.below (below_alloc (Below.refl _ _) o)
theorem drew (h : SB w0 w L) : SB w0 w.drew L := h.below (below_drew (Below.refl _ _))
theorem drewN (h : SB w0 w L) (n : Nat) : SB w0 (w.drewN n) L := h.below (pw_below_drewN (Below.refl _ _) n)
theorem swap (h : SB w0 w (A :: B :: L)) : SB w0 w (B :: A :: L) := by
  obtain ⟨h1, F, ⟨F1, F2, ha, ⟨F3, F4, hb, hl, hd2, he2⟩, hd, he⟩, hF⟩ := h
  refine ⟨h1, F, ⟨F3, fun k => F1 k ∨ F4 k, hb, ⟨F1, F4, ha, hl, fun k h1 h4 => hd k h1 ((he2 k).2 (.inr h4)), fun k => Iff.rfl⟩, fun k h3 => fun h => h.elim (fun h1 => hd k h1 ((he2 k).2 (.inl h3))) (fun h4 => hd2 k h3 h4), fun k => ?_⟩, hF⟩
  rw [he k, he2 k]
  constructor
  · rintro (h | h | h)
    · exact .inr (.inl h)
    · exact .inl h
    · exact .inr (.inr h)
  · rintro (h | h | h)
    · exact .inr (.inl h)
    · exact .inl h
    · exact .inr (.inr h)
theorem drop (h : SB w0 w (A :: L)) : SB w0 w L := by
  obtain ⟨h1, F, ⟨F1, F2, ha, hl, hd, he⟩, hF⟩ := h
  exact ⟨h1, F2, hl, fun k hk => hF k ((he k).2 (.inr hk))⟩
/-- The head turns on its own blocks (and new ones). -/
theorem upd (h : SB w0 w (A :: L)) (hu : ∀ F, A.P w F → (∀ k, F k → w0.heap.size ≤ k) → ∃ F', A'.P w1 F' ∧ Fr w w1 F ∧ ∀ k, F' k → F k ∨ w.heap.size ≤ k) : SB w0 w1 (A' :: L) := by
  obtain ⟨h1, F, ⟨F1, F2, ha, hl, hd, he⟩, hF⟩ := h
  obtain ⟨F', ha', hf, hF'⟩ := hu F1 ha (fun k hk => hF k ((he k).2 (.inl hk)))
  refine ⟨h1.trans (hf.to_below h1.size (fun k hk => hF k ((he k).2 (.inl hk)))), fun k => F' k ∨ F2 k, ⟨F', F2, ha', hl.mv (fun k hk => hf.block k (hl.lt k hk) (fun h1 => hd k h1 hk)), fun k hk h2 => ?_, fun k => Iff.rfl⟩, fun k hk => ?_⟩
  · rcases hF' k hk with h | h
    · exact hd k h h2
    · have := hl.lt k h2; omega
  · rcases hk with hk | hk
    · rcases hF' k hk with h | h
      · exact hF k ((he k).2 (.inl h))
      · have := h1.size; omega
    · exact hF k ((he k).2 (.inr hk))
/-- A new one, on new blocks. -/
theorem new (h : SB w0 w L) (hb : Below w.heap.size w w1) {F' : Nat → Prop} (ha : A.P w1 F') (hF' : ∀ k, F' k → w.heap.size ≤ k) : SB w0 w1 (A :: L) := by
  obtain ⟨h1, F, hl, hF⟩ := h
  refine ⟨h1.trans (hb.mono h1.size), fun k => F' k ∨ F k, ⟨F', F, ha, hl.mv (fun k hk => hb.block k (hl.lt k hk)), fun k hk h2 => ?_, fun k => Iff.rfl⟩, fun k hk => ?_⟩
  · have := hl.lt k h2; have := hF' k hk; omega
  · rcases hk with hk | hk
    · have := hF' k hk; have := h1.size; omega
    · exact hF k hk
/-- A call that is told of the head alone. -/
theorem call {P : Program} {f : Nat} {args : Array Value} {α : Type} {R : α → Ending → Prop} {A' : α → As} (h : SB w0 w (A :: L))
    (hc : ∀ F, A.P w F → Calls P f args w fun e w' => ∃ x, R x e ∧ ∃ F', (A' x).P w' F' ∧ Fr w w' F ∧ ∀ k, F' k → F k ∨ w.heap.size ≤ k) :
    Calls P f args w fun e w' => ∃ x, R x e ∧ SB w0 w' (A' x :: L) := by
  obtain ⟨h1, F, ⟨F1, F2, ha, hl, hd, he⟩, hF⟩ := h
  refine (hc F1 ha).mono ?_
  rintro e w' ⟨x, hx, F', ha', hf, hF'⟩
  exact ⟨x, hx, h1.trans (hf.to_below h1.size (fun k hk => hF k ((he k).2 (.inl hk)))), fun k => F' k ∨ F2 k, ⟨F', F2, ha', hl.mv (fun k hk => hf.block k (hl.lt k hk) (fun h1 => hd k h1 hk)), fun k hk h2 => by
    rcases hF' k hk with h | h
    · exact hd k h h2
    · have := hl.lt k h2; omega, fun k => Iff.rfl⟩, fun k hk => by
    rcases hk with hk | hk
    · rcases hF' k hk with h | h
      · exact hF k ((he k).2 (.inl h))
      · have := h1.size; omega
    · exact hF k ((he k).2 (.inr hk))⟩
/-- What the head says. -/
theorem head (h : SB w0 w (A :: L)) : ∃ F, A.P w F ∧ ∀ k, F k → w0.heap.size ≤ k := by
  obtain ⟨h1, F, ⟨F1, F2, ha, hl, hd, he⟩, hF⟩ := h
  exact ⟨F1, ha, fun k hk => hF k ((he k).2 (.inl hk))⟩
theorem rot2 (h : SB w0 w (A :: B :: C :: L)) : SB w0 w (C :: A :: B :: L) := by
  have h2 : SB w0 w (A :: C :: B :: L) := by
    obtain ⟨h1, F, ⟨F1, F2, ha, hl, hd, he⟩, hF⟩ := h
    obtain ⟨F3, F4, hb, ⟨F5, F6, hc, hl, hd3, he3⟩, hd2, he2⟩ := hl
    refine ⟨h1, F, ⟨F1, F2, ha, ⟨F5, fun k => F3 k ∨ F6 k, hc, ⟨F3, F6, hb, hl, fun k h3 h6 => hd2 k h3 ((he3 k).2 (.inr h6)), fun k => Iff.rfl⟩, fun k h5 h => h.elim (fun h3 => hd2 k h3 ((he3 k).2 (.inl h5))) (fun h6 => hd3 k h5 h6), fun k => ?_⟩, hd, he⟩, hF⟩
    rw [he2 k, he3 k]
    constructor
    · rintro (h | h | h)
      · exact .inr (.inl h)
      · exact .inl h
      · exact .inr (.inr h)
    · rintro (h | h | h)
      · exact .inr (.inl h)
      · exact .inl h
      · exact .inr (.inr h)
  exact h2.swap
end SB

/-- A variable in memory. -/
def Box (g : Nat) (cs : Array Value) (t : TypeId) : As where
  P w F := w.heap[g]? = some (.cells cs t (0, 0)) ∧ ∀ k, F k ↔ k = g
  lt h k hk := by rw [(h.2 k).1 hk]; exact blk_lt h.1
  mv h hm := ⟨(hm g ((h.2 g).2 rfl)).trans h.1, h.2⟩
/-- A row of the call's own. -/
def Row {α : Type} (d : Kd α) (e : Nat) (v : Value) (xs : List α) : As where
  P w F := d.R e w 0 F v xs ∧ ∀ k, F k → k < w.heap.size
  lt h := h.2
  mv {w w1 F} h hm := ⟨Kd.R_move h.1 hm, fun k hk => by
    have h1 := h.2 k hk
    have h2 := hm k hk
    rw [Array.getElem?_eq_getElem h1] at h2
    exact (Array.getElem?_eq_some_iff.1 h2).1⟩
/-- A variable whose first cell is a row of the call's own (the row's type e, the variable's t), the others rest. -/
def ObR {α : Type} (d : Kd α) (e t p : Nat) (xs : List α) (rest : List Value) : As where
  P w F := ∃ v, w.heap[p]? = some (.cells (v :: rest).toArray t (0, 0)) ∧ d.R e w 0 (fun k => F k ∧ k ≠ p) v xs ∧ F p ∧ ∀ k, F k → k < w.heap.size
  lt h := by obtain ⟨v, _, _, _, h⟩ := h; exact h
  mv {w w1 F} h hm := by
    obtain ⟨v, hb, hr, hp, hl⟩ := h
    refine ⟨v, (hm p hp).trans hb, Kd.R_move hr (fun k hk => hm k hk.1), hp, fun k hk => ?_⟩
    have h1 := hl k hk
    have h2 := hm k hk
    rw [Array.getElem?_eq_getElem h1] at h2
    exact (Array.getElem?_eq_some_iff.1 h2).1
theorem SB.box {w0 w : World} {L : List As} (h : SB w0 w L) (cs : Array Value) (t : TypeId) : SB w0 (w.alloc (.cells cs t)) (Box w.heap.size cs t :: L) :=
  h.new (below_alloc (Below.refl _ _) _) (A := Box w.heap.size cs t) (F' := fun k => k = w.heap.size) ⟨heap_alloc_new w _, fun k => Iff.rfl⟩ (fun k hk => by omega)
theorem SB.row {α : Type} {d : Kd α} {e : Nat} {v : Value} {xs : List α} {w0 w w1 : World} {L : List As} (h : SB w0 w L) (hb : Below w.heap.size w w1) {ok : Nat → Prop} (hr : d.R e w1 w.heap.size ok v xs) : SB w0 w1 (Row d e v xs :: L) :=
  h.new hb (A := Row d e v xs) (F' := fun k => w.heap.size ≤ k ∧ k < w1.heap.size) ⟨Kd.R_lower (Kd.R_mono (Kd.R_bound hr) (fun k hk => ⟨hk.2.1, hk.2.2.1⟩)) (Nat.zero_le _), fun k hk => hk.2⟩ (fun k hk => hk.1)
theorem SB.reads {α : Type} {d : Kd α} {e : Nat} {v : Value} {xs : List α} {w0 w : World} {L : List As} (h : SB w0 w (Row d e v xs :: L)) : ∃ A c, v = .slice A xs.length c ∧ xs.length ≤ c ∧ d.C w A xs.length xs := by
  obtain ⟨F, hr, _⟩ := h.head
  exact Kd.R_reads hr.1
theorem SL.perm {L L' : List As} (h : L.Perm L') : ∀ {w : World} {F : Nat → Prop}, SL L w F → SL L' w F := by
  induction h with
  | nil => exact fun h => h
  | cons A _ ih => rintro w F ⟨F1, F2, ha, hl, hd, he⟩; exact ⟨F1, F2, ha, ih hl, hd, he⟩
  | swap A B L =>
    rintro w F ⟨F1, F2, ha, ⟨F3, F4, hb, hl, hd2, he2⟩, hd, he⟩
    refine ⟨F3, fun k => F1 k ∨ F4 k, hb, ⟨F1, F4, ha, hl, fun k h1 h4 => hd k h1 ((he2 k).2 (.inr h4)), fun k => Iff.rfl⟩, fun k h3 => fun h => h.elim (fun h1 => hd k h1 ((he2 k).2 (.inl h3))) (fun h4 => hd2 k h3 h4), fun k => ?_⟩
    rw [he k, he2 k]
    constructor
    · rintro (h | h | h)
      · exact .inr (.inl h)
      · exact .inl h
      · exact .inr (.inr h)
    · rintro (h | h | h)
      · exact .inr (.inl h)
      · exact .inl h
      · exact .inr (.inr h)
  | trans _ _ ih1 ih2 => exact fun h => ih2 (ih1 h)
theorem SB.perm {w0 w : World} {L L' : List As} (h : SB w0 w L) (hp : L.Perm L') : SB w0 w L' := by
  obtain ⟨h1, F, hl, hF⟩ := h
  exact ⟨h1, F, hl.perm hp, hF⟩
theorem SB.prefix_ {w0 w : World} {L1 L2 : List As} (h : SB w0 w (L1 ++ L2)) : SB w0 w L1 := by
  induction L2 with
  | nil => rwa [List.append_nil] at h
  | cons A L2 ih => exact ih (h.perm List.perm_middle).drop
def As.none : As := ⟨fun _ F => ∀ k, ¬ F k, fun h k hk => absurd hk (h k), fun h _ => h⟩
def pickOk (n : Nat) (ix : List Nat) : Bool := (ix ++ (List.range n).filter (fun i => !ix.contains i)).isPerm (List.range n)
/-- The assertions of these numbers, in this order; the others are dropped. -/
theorem SB.pick {w0 w : World} {L : List As} (h : SB w0 w L) (ix : List Nat) (hp : pickOk L.length ix = true := by kernel_rfl) : SB w0 w (ix.map fun i => L.getD i As.none) := by
  have h1 := List.isPerm_iff.1 hp
  have h2 := h1.map (fun i => L.getD i As.none)
  have h3 : (List.range L.length).map (fun i => L.getD i As.none) = L := by
    apply List.ext_getElem
    · simp
    · intro i h1 h2
      simp [List.getElem?_eq_getElem h2]
  rw [h3, List.map_append] at h2
  exact (h.perm h2.symm).prefix_
/-- One assertion of the list, by what it is of (mk): its value m, and the list with another value in its place. -/
class Has {β : Type} (mk : β → As) (L : List As) (m : outParam β) (U : outParam (β → List As)) : Prop where
  rest : ∃ R, L.Perm (mk m :: R) ∧ ∀ x, (U x).Perm (mk x :: R)
instance Has.head {β : Type} {mk : β → As} {L : List As} {m : β} : Has mk (mk m :: L) m (fun x => mk x :: L) := ⟨L, .refl _, fun _ => .refl _⟩
instance Has.tail {β : Type} {mk : β → As} {L : List As} {m : β} {U : β → List As} {B : As} [h : Has mk L m U] : Has mk (B :: L) m (fun x => B :: U x) := by
  obtain ⟨R, h1, h2⟩ := h.rest
  exact ⟨B :: R, (h1.cons B).trans (.swap _ _ _), fun x => ((h2 x).cons B).trans (.swap _ _ _)⟩
theorem SB.at_ {β : Type} {mk : β → As} {L : List As} {m : β} {U : β → List As} [h : Has mk L m U] {w0 w : World} (hS : SB w0 w L) :
    ∃ R, SB w0 w (mk m :: R) ∧ (∀ {w1}, SB w0 w1 (mk m :: R) → SB w0 w1 L) ∧ (∀ {w1 A}, SB w0 w1 (A :: mk m :: R) → SB w0 w1 (A :: L)) ∧ (∀ {w1 x}, SB w0 w1 (mk x :: R) → SB w0 w1 (U x)) ∧ (∀ {w1 A x}, SB w0 w1 (A :: mk x :: R) → SB w0 w1 (A :: U x)) := by
  obtain ⟨R, h1, h2⟩ := h.rest
  exact ⟨R, hS.perm h1, fun h => h.perm h1.symm, fun h => h.perm (h1.symm.cons _), fun h => h.perm (h2 _).symm, fun h => h.perm ((h2 _).symm.cons _)⟩
theorem SB.boxAt {w0 w : World} {L : List As} (g : Nat) (t : TypeId) {cs : Array Value} {U : Array Value → List As} [Has (fun cs => Box g cs t) L cs U] (h : SB w0 w L) : w.heap[g]? = some (.cells cs t (0, 0)) := by
  obtain ⟨R, h1, _⟩ := h.at_ (mk := fun cs => Box g cs t)
  obtain ⟨F, hF, _⟩ := h1.head
  exact hF.1
/-- What an element of a row of numbers holds. -/
theorem row_cell {k : IntKind} {w : World} {A : Option Addr} {n : Nat} {xs : List Int} (h : Kd.C (Kd.int k) w A n xs) {i : Nat} (hi : i < xs.length) : ∃ ad, A = some ad ∧ w.cell? (ad.add i) = some (.int k xs[i]) := by
  have hn : i < n := by have := Kd.C_len h; omega
  obtain ⟨ad, hA, hc⟩ := (Kd.reads_of_C (enc := Value.int k) (d := 0) (h1 := fun _ => rfl) h).2.2 (by omega)
  refine ⟨ad, hA, ?_⟩
  rw [hc i hn]
  simp [List.getElem?_eq_getElem hi]
theorem drawn_below {w w' : World} (h : Drawn0 w w') : Below w.heap.size w w' := by
  obtain ⟨nd, rfl⟩ := h
  exact pw_below_drewN (Below.refl _ _) _
theorem rg_sb {P : Program} {ops : Array Oper} {Q : Exit → Act → World → Prop} {md : Region.Mode} {n : Nat} {l : Array Bool} {a : Act} {w w0 : World} {A : As} {L : List As} (hnew : SB w0 w (A :: L))
    (h : wpAnyH P md ops Q (fun w' => SB w0 w' (A :: L)) n l a w) : wpAnyH P md ops Q (fun w' => SB w0 w' L) n l a w := rg_imp (fun w' h => h.drop) h
end Go.Proofs.Ytbjglicdamenhaa.G
