/- Rows of structs as their raw cells, and what their cells lead to. -/
import Derived.Test.YtbjglicdamenhaaSep
namespace Go.Proofs.Ytbjglicdamenhaa.G
open Go.RowKit Go.Proofs.YtbjglicdamenhaaW.PrintWords Go.Proofs.YtbjglicdamenhaaW.PrintLast Go.Proofs.YtbjglicdamenhaaW.PrintMore
set_option linter.unusedVariables false
set_option linter.unusedSimpArgs false
section
variable {α : Type} {d : Kd α} {w : World} {A : Option Addr} {n : Nat} {xs : List α}
/-- A row that is read, as its raw cells. -/
theorem raw_of (h : d.C w A n xs) : ∃ z : List (List Value), Kd.C (Kd.raw d.sz) w A n z ∧ z.length = xs.length ∧ ∀ (j : Nat) (x : α) (c : List Value), xs[j]? = some x → z[j]? = some c → d.K w x c := by
  obtain ⟨h1, h2, h3⟩ := h
  by_cases hn : 0 < n
  · obtain ⟨ad, e, hc⟩ := h3 hn
    have hex : ∀ j : Nat, ∃ c : List Value, ∀ p, xs[j]? = some p → c.length = d.sz ∧ d.K w p c ∧ ∀ i u, c[i]? = some u → w.cell? (ad.add (j * d.sz + i)) = some u := by
      intro j
      cases hx : xs[j]? with
      | none => exact ⟨[], fun p hp => by cases hp⟩
      | some x =>
        obtain ⟨c, q1, q2, q3⟩ := hc j x hx
        exact ⟨c, fun p hp => by injection hp with hp; subst hp; exact ⟨q1, q2, q3⟩⟩
    obtain ⟨f, hf⟩ := Classical.axiomOfChoice hex
    have hg : ∀ j, ((List.range xs.length).map f)[j]? = if j < xs.length then some (f j) else none := by
      intro j
      by_cases hj : j < xs.length
      · rw [if_pos hj, List.getElem?_map, List.getElem?_range hj]; rfl
      · rw [if_neg hj, List.getElem?_eq_none (by simp; omega)]
    refine ⟨(List.range xs.length).map f, ⟨by simp; exact h1, h2, fun _ => ⟨ad, e, fun j p hj => ?_⟩⟩, by simp, fun j x c hx hc => ?_⟩
    · rw [hg] at hj
      split at hj
      · rename_i hjl
        injection hj with hj
        subst hj
        obtain ⟨q1, q2, q3⟩ := hf j _ (List.getElem?_eq_getElem hjl)
        exact ⟨f j, q1, ⟨rfl, q1, d.K_one q2⟩, q3⟩
      · cases hj
    · have hjl : j < xs.length := (List.getElem?_eq_some_iff.1 hx).1
      rw [hg, if_pos hjl] at hc
      injection hc with hc
      subst hc
      exact (hf j x hx).2.1
  · have h0 : n = 0 := by omega
    subst h0
    cases xs with
    | nil => exact ⟨[], ⟨rfl, h2, fun h => absurd h (by omega)⟩, rfl, fun j x c hx _ => by simp at hx⟩
    | cons x xs => simp at h1
/-- Raw cells, read as a row. -/
theorem of_raw {z : List (List Value)} (h : Kd.C (Kd.raw d.sz) w A n z) (hl : z.length = xs.length) (hK : ∀ (j : Nat) (x : α) (c : List Value), xs[j]? = some x → z[j]? = some c → d.K w x c) : d.C w A n xs := by
  obtain ⟨h1, h2, h3⟩ := h
  refine ⟨by omega, h2, fun hn => ?_⟩
  obtain ⟨ad, e, hc⟩ := h3 hn
  refine ⟨ad, e, fun j p hj => ?_⟩
  have hjl : j < z.length := by rw [hl]; exact (List.getElem?_eq_some_iff.1 hj).1
  obtain ⟨c, q1, ⟨q2, _, _⟩, q3⟩ := hc j _ (List.getElem?_eq_getElem hjl)
  subst q2
  exact ⟨_, q1, hK j p _ hj (List.getElem?_eq_getElem hjl), q3⟩
theorem C_tail {x : α} (h : d.C w A (n + 1) (x :: xs)) : d.C w (A.map (·.add (1 * d.sz))) n xs := by
  obtain ⟨h1, h2, h3⟩ := h
  refine ⟨by simpa using h1, by omega, fun hn => ?_⟩
  obtain ⟨ad, e, hc⟩ := h3 (by omega)
  refine ⟨ad.add (1 * d.sz), by rw [e]; rfl, fun j p hj => ?_⟩
  obtain ⟨c, q1, q2, q3⟩ := hc (j + 1) p (by simpa using hj)
  refine ⟨c, q1, q2, fun i u hi => ?_⟩
  have := q3 i u hi
  rw [show (j + 1) * d.sz + i = 1 * d.sz + (j * d.sz + i) by rw [Nat.add_mul]; omega] at this
  rw [Addr.add_add]
  exact this
end
/-- A row that is read, on blocks of its own alone. -/
def OwA {α : Type} (d : Kd α) (A : Option Addr) (n : Nat) (xs : List α) : As where
  P w F := (∀ W : World, (∀ k, F k → W.heap[k]? = w.heap[k]?) → d.C W A n xs) ∧ ∀ k, F k → k < w.heap.size
  lt h := h.2
  mv {w w1 F} h hm := ⟨fun W h1 => h.1 W (fun k hk => (h1 k hk).trans (hm k hk)), fun k hk => by
    have h1 := h.2 k hk
    have h2 := hm k hk
    rw [Array.getElem?_eq_getElem h1] at h2
    exact (Array.getElem?_eq_some_iff.1 h2).1⟩
theorem SB.ow {α : Type} {d : Kd α} {A : Option Addr} {n : Nat} {xs : List α} {w0 w : World} {L : List As} (h : SB w0 w (OwA d A n xs :: L)) : d.C w A n xs := by
  obtain ⟨F, hF, _⟩ := h.head
  exact hF.1 w (fun _ _ => rfl)
/-- What an assertion says in whatever world its blocks stand as they are. -/
theorem SB.toOw {α : Type} {d : Kd α} {A : Option Addr} {n : Nat} {xs : List α} {B : As} {w0 w : World} {L : List As} (h : SB w0 w (B :: L)) (hC : ∀ W F, B.P W F → d.C W A n xs) : SB w0 w (OwA d A n xs :: L) :=
  h.weak (fun F hF => ⟨fun W hW => hC W F (B.mv hF hW), B.lt hF⟩)
/-- Two assertions as one. -/
theorem SB.two {A B : As} {w0 w : World} {L : List As} (h : SB w0 w (A :: B :: L)) : SB w0 w (Sep [A, B] :: L) := SB.sepN.2 h
end Go.Proofs.Ytbjglicdamenhaa.G
