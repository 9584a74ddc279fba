/- Regions that draw, step by step: what holds of the world may be said anew (and more sharply) behind each operation. -/
import Derived.Deep.RegionHeld3
import Derived.Test.YtbjglicdamenhaaWKept
import Derived.Test.YtbjglicdamenhaaWMore
namespace Go.Proofs.Ytbjglicdamenhaa.G
open Go.RowKit Go.Proofs.YtbjglicdamenhaaW.PrintWords Go.Proofs.YtbjglicdamenhaaW.PrintLast Go.Proofs.YtbjglicdamenhaaW.PrintMore
set_option linter.unusedVariables false
/-- n marks: those of m's bits. -/
def bm (n m : Nat) : Array Bool := ((List.range n).map fun i => m.testBit i).toArray
section
variable {P : Program} {ops : Array Oper} {Q : Exit → Act → World → Prop} {md : Region.Mode} {S S' : World → Prop} {n : Nat} {l : Array Bool} {a : Act} {w : World}
theorem rg_start {id : Nat} (l0 : Array Bool) (hm : P.follows .mixedOrders = true) (hn : ops.size = n) (hl : (Array.replicate n false == l0) = true) (hS : S w.drew)
    (h : S w.drew → wpAnyH P .any ops Q S n l0 a w.drew) : (Code.region id ops true).wp P Q a w := by
  subst hn
  have hl := beq_iff_eq.1 hl
  subst hl
  exact wp_region_held_drew hm hS h
/-- The same; the world behind the draw is a letter. -/
theorem rg_startL {id : Nat} (l0 : Array Bool) (hm : P.follows .mixedOrders = true) (hn : ops.size = n) (hl : (Array.replicate n false == l0) = true) (hS : S w.drew)
    (h : ∀ wd, Aside0 (wd = w.drew) → S wd → wpAnyH P .any ops Q S n l0 a wd) : (Code.region id ops true).wp P Q a w := rg_start l0 hm hn hl hS (h _ ⟨rfl⟩)
/-- An operation that makes memory: the world behind it is a letter. -/
theorem valueL_ {oi : Oper} {N : Option Tmp} {w1 : World} {v : Value} {K : Act → World → Prop} (hw : Region.wanted oi (yielded ops a.tmps) = true) (hN : oi.dst = N) (hrun : (execOp a.eval oi).run P w = .ok (.value v) w1)
    (h : ∀ w2, w2 = w1 → K (a.put N v) w2) : if Region.wanted oi (yielded ops a.tmps) = true then Oper.wp P oi a w K Q else K (a.put N undef) w := value_ hw hN hrun (h _ rfl)
/-- From here on more is held. -/
theorem rg_imp (h : ∀ w, S' w → S w) : ∀ {n : Nat} {l : Array Bool} {a : Act} {w : World}, wpAnyH P md ops Q S' n l a w → wpAnyH P md ops Q S n l a w
  | 0, _, _, _, H => H
  | n + 1, _, _, _, H => ⟨H.1, fun i hi => wpOp_mono (fun a' w' hh => ⟨h _ hh.1, rg_imp h hh.2⟩) (H.2 i hi)⟩
theorem rg_take {i : Nat} {N : Option Tmp} {oi : Oper} {v : Value} (l' : Array Bool) (hi : ops[i]? = some oi) (hN : oi.dst = N) (hc : anyB md ops l l' i = true)
    (hQ : ∀ c a w, Q (.panic c) (a.put oi.dst v) w → Q (.panic c) a w) (hS : S w) (hy : YieldsIf P ops S oi v a) {a' : Act} (ha : a.put N v = a')
    (h : wpAnyH P md ops Q S n l' a' w) : wpAnyH P md ops Q S (n + 1) l a w := by
  subst ha
  subst hN
  simp only [anyB, Bool.and_eq_true, beq_iff_eq] at hc
  obtain ⟨⟨⟨h1, h2⟩, h3⟩, h6⟩ := hc
  subst h6
  exact wpAnyH_take hi h1 h2 h3 hQ hy hS h
/-- The operations rs, and no others, may come up now. -/
theorem rg_ready (rs : List Nat) (hr : (Region.ready md ops l == rs) = true) (hne : rs ≠ []) (h : AllReadyH P md ops Q S n l a w rs) : wpAnyH P md ops Q S (n + 1) l a w :=
  wpAnyH_ready (by simpa using hr) hne h
theorem rg_one {i : Nat} {N : Option Tmp} {oi : Oper} {rs : List Nat} (l' : Array Bool) (hi : ops[i]? = some oi) (hN : oi.dst = N) (hl : (l.setIfInBounds i true == l') = true)
    (h : ∀ K : Act → World → Prop, Shut (∀ v w', S w' → wpAnyH P md ops Q S n l' (a.put N v) w' → K (a.put N v) w') → if Region.wanted oi (yielded ops a.tmps) = true then Oper.wp P oi a w K Q else K (a.put N undef) w)
    (hs : AllReadyH P md ops Q S n l a w rs) : AllReadyH P md ops Q S n l a w (i :: rs) := by
  subst hN
  have hl := beq_iff_eq.1 hl
  subst hl
  exact AllReadyH.cons hi (fun K hK => h K (fun v w' hS hW => hK _ w' hS (fun _ => hW))) hs
theorem rg_nil : AllReadyH P md ops Q S n l a w [] := AllReadyH.nil
theorem rg_done (hr : (Region.ready md ops l == []) = true) (h : Q .normal a w) : wpAnyH P md ops Q S n l a w := wpAnyH_done (by simpa using hr) h n
theorem rg_norm {a' : Act} (ha : a = a') (h : wpAnyH P md ops Q S n l a' w) : wpAnyH P md ops Q S n l a w := by
  subst ha
  exact h
end
/-- Nothing that was there has turned. -/
def Since (w w' : World) : Prop := Below w.heap.size w w'
theorem Since.refl (w : World) : Since w w := Below.refl _ _
theorem Since.trans {w w1 w2 : World} (h : Since w w1) (h2 : Since w1 w2) : Since w w2 := Below.trans h (Below.mono h2 h.size)
theorem Since.alloc (w : World) (o : Obj) : Since w (w.alloc o) := below_alloc (Below.refl _ _) o
theorem Since.drew (w : World) : Since w w.drew := below_drew (Below.refl _ _)
end Go.Proofs.Ytbjglicdamenhaa.G
