/- A field of an element of a row of structs is written. -/
import Derived.Test.YtbjglicdamenhaaHold
namespace Go.Proofs.Ytbjglicdamenhaa.G
open Go.RowKit Go.Proofs.YtbjglicdamenhaaW.PrintWords Go.Proofs.YtbjglicdamenhaaW.PrintLast Go.Proofs.YtbjglicdamenhaaW.PrintMore
set_option linter.unusedVariables false
theorem set_same {α : Type} (l : List α) (i s f : Nat) (u : α) (hf : f < s) : ((l.set (i * s + f) u).drop (i * s)).take s = ((l.drop (i * s)).take s).set f u := by
  rw [List.drop_set, if_neg (by omega), Nat.add_sub_cancel_left, List.take_set]
theorem set_far {α : Type} (l : List α) (i j s f : Nat) (u : α) (hf : f < s) (hj : j ≠ i) : ((l.set (i * s + f) u).drop (j * s)).take s = (l.drop (j * s)).take s := by
  rw [List.drop_set]
  rcases Nat.lt_or_ge j i with h | h
  · have h1 : (j + 1) * s ≤ i * s := Nat.mul_le_mul_right s h
    rw [Nat.succ_mul] at h1
    rw [if_neg (by omega), List.take_set, List.set_eq_of_length_le (by rw [List.length_take]; omega)]
  · have h1 : (i + 1) * s ≤ j * s := Nat.mul_le_mul_right s (by omega)
    rw [Nat.succ_mul] at h1
    rw [if_pos (by omega)]
theorem R_field {α : Type} {d : Kd α} {e base g n c : Nat} {ok : Nat → Prop} {W : World} {xs : List α} (hflat : ∀ {w w' base ok x cs}, d.M w base ok x cs → d.M w' base ok x cs) (h : d.R e W base ok (.slice (some ⟨g, 0, none⟩) n c) xs) {i : Nat} (hi : i < xs.length) {f : Nat} (hf : f < d.sz) (y : α) (u : Value)
    (hu : ∀ {base ok cs}, d.M W base ok xs[i] cs → d.M W base ok y (cs.set f u)) : d.R e (W.setCell ⟨g, i * d.sz + f, none⟩ u) base ok (.slice (some ⟨g, 0, none⟩) n c) (xs.set i y) := by
  obtain ⟨h0, inner, ho, hr⟩ := h
  refine ⟨h0, inner.set (i * d.sz + f) u, ?_, ?_⟩
  · obtain ⟨hl, hbad | ⟨g', cap, cur, hv, hb, hh, hnc, hcm, hcs, htake⟩⟩ := ho
    · cases hbad.1
    injection hv with hv1 hv2 hv3
    injection hv1 with hv1
    injection hv1 with hv1
    subst hv1
    subst hv3
    rw [List.length_set]
    refine ⟨by rw [List.length_set]; exact hl, .inr ⟨g, c, cur.setIfInBounds (i * d.sz + f) u, by rw [hv2], hb, blk_set hh _ _, hnc, hcm, by simpa using hcs, ?_⟩⟩
    rw [Array.toList_setIfInBounds, List.take_set, htake]
  · refine ⟨by rw [List.length_set, List.length_set]; exact hr.1, fun j p hj => ?_⟩
    by_cases hji : j = i
    · subst hji
      rw [List.getElem?_set_self hi] at hj
      obtain rfl := Option.some.inj hj
      rw [set_same _ _ _ _ _ hf]
      exact hflat (hu (hr.2 j xs[j] (List.getElem?_eq_getElem hi)))
    · rw [List.getElem?_set_ne (fun e => hji e.symm)] at hj
      rw [set_far _ _ _ _ _ _ hf hji]
      exact hflat (hr.2 j p hj)
end Go.Proofs.Ytbjglicdamenhaa.G
