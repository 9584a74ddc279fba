/- Package frames' stacks: what stays true of them, whatever is done. -/
import Derived.Test.YtbbgkelcdooabaaFraH
namespace Go.Proofs.Ytbbgkelcdooabaa.G
open Go.RowKit Go.Proofs.YtbbgkelcdooabaaW.PrintWords Go.Proofs.YtbbgkelcdooabaaW.PrintLast Go.Proofs.YtbbgkelcdooabaaW.PrintMore
set_option linter.unusedVariables false
set_option linter.unusedSimpArgs false
theorem baseOf_nil : baseOf [] = 0 := rfl
theorem baseOf_concat (l : List Fm) (x : Fm) : baseOf (l ++ [x]) = x.base := by simp [baseOf]
structure Inv (s : FS) (B : Nat) : Prop where
  vl : s.v.length ≤ B
  loc : ∀ f ∈ s.fr, f.loc.length ≤ B + 100
  nn : ∀ f ∈ s.fr, 0 ≤ f.base ∧ f.base ≤ (s.v.length : Int)
  mono : s.fr.Pairwise (fun a b => a.base ≤ b.base)
  fl : (s.fr.length : Int) ≤ max 0 s.room
theorem Inv.le_base {s : FS} {B : Nat} (h : Inv s B) : ∀ f ∈ s.fr, f.base ≤ baseOf s.fr := by
  intro f hf
  rcases List.eq_nil_or_concat s.fr with e | ⟨l, x, e⟩
  · rw [e] at hf; cases hf
  · rw [List.concat_eq_append] at e
    have hm := h.mono
    rw [e] at hf hm ⊢
    rw [baseOf_concat]
    rcases List.mem_append.1 hf with hf | hf
    · exact (List.pairwise_append.1 hm).2.2 f hf x (by simp)
    · rw [List.mem_singleton.1 hf]; omega
theorem Inv.base {s : FS} {B : Nat} (h : Inv s B) : 0 ≤ baseOf s.fr ∧ baseOf s.fr ≤ (s.v.length : Int) := by
  rcases List.eq_nil_or_concat s.fr with e | ⟨l, x, e⟩
  · rw [e, baseOf_nil]; omega
  · rw [List.concat_eq_append] at e
    have := h.nn x (by rw [e]; simp)
    rw [e, baseOf_concat]
    exact this
theorem Inv.up {s : FS} {B B' : Nat} (h : Inv s B) (hB : B ≤ B') : Inv s B' :=
  ⟨Nat.le_trans h.vl hB, fun f hf => Nat.le_trans (h.loc f hf) (by omega), h.nn, h.mono, h.fl⟩
theorem Inv.same {s : FS} {B B' : Nat} (h : Inv s B) (v : List Int) (h1 : v.length ≤ B') (h2 : baseOf s.fr ≤ (v.length : Int)) (hB : B ≤ B') : Inv { s with v := v } B' :=
  ⟨h1, fun f hf => Nat.le_trans (h.loc f hf) (by omega), fun f hf => ⟨(h.nn f hf).1, Int.le_trans (h.le_base f hf) h2⟩, h.mono, h.fl⟩
theorem Inv.last {s : FS} {B : Nat} (h : Inv s B) {x : Fm} (hx : s.fr = s.fr.dropLast ++ [x]) (y : Fm) (hb : y.base = x.base) (hl : y.loc.length = x.loc.length) : Inv { s with fr := s.fr.dropLast ++ [y] } B := by
  have hxm : x ∈ s.fr := by rw [hx]; simp
  have hm := h.mono
  rw [hx] at hm
  have hm := List.pairwise_append.1 hm
  refine ⟨h.vl, fun f hf => ?_, fun f hf => ?_, ?_, ?_⟩
  · rcases List.mem_append.1 hf with hf | hf
    · exact h.loc f (List.dropLast_subset _ hf)
    · rw [List.mem_singleton.1 hf, hl]; exact h.loc x hxm
  · rcases List.mem_append.1 hf with hf | hf
    · exact h.nn f (List.dropLast_subset _ hf)
    · rw [List.mem_singleton.1 hf, hb]; exact h.nn x hxm
  · refine List.pairwise_append.2 ⟨hm.1, List.pairwise_singleton _ _, fun a ha b hb' => ?_⟩
    rw [List.mem_singleton.1 hb', hb]
    exact hm.2.2 a ha x (by simp)
  · have := h.fl
    rw [hx] at this
    simpa using this
/-- What a thing that is done leaves as it was: the values below n, the frames ahead of one. -/
structure Kept0 (was : List Int) (fr0 : List Fm) (s : FS) : Prop where
  v : was <+: s.v
  fr : ∃ x more, s.fr = fr0 ++ x :: more ∧ x.base = (was.length : Int)
theorem Kept0.base {was : List Int} {fr0 : List Fm} {s : FS} {B : Nat} (h : Kept0 was fr0 s) (hi : Inv s B) : (was.length : Int) ≤ baseOf s.fr := by
  obtain ⟨x, more, e, hb⟩ := h.fr
  rw [← hb]
  exact hi.le_base x (by rw [e]; simp)
theorem Kept0.ne {was : List Int} {fr0 : List Fm} {s : FS} (h : Kept0 was fr0 s) : fr0.length + 1 ≤ s.fr.length := by
  obtain ⟨x, more, e, hb⟩ := h.fr
  rw [e]; simp
theorem Kept0.last {was : List Int} {fr0 : List Fm} {s : FS} (h : Kept0 was fr0 s) {x : Fm} (hx : s.fr = s.fr.dropLast ++ [x]) (y : Fm) (hb : y.base = x.base) : Kept0 was fr0 { s with fr := s.fr.dropLast ++ [y] } := by
  obtain ⟨x0, more, e, hb0⟩ := h.fr
  refine ⟨h.v, ?_⟩
  rcases List.eq_nil_or_concat more with e2 | ⟨l, z, e2⟩
  · subst e2
    rw [e] at hx
    have h3 : (fr0 ++ [x0]).dropLast = fr0 := by simp
    rw [h3] at hx
    have hx0 : x0 = x := by simpa using hx
    exact ⟨y, [], by show s.fr.dropLast ++ [y] = _; rw [e, h3], by rw [hb, ← hx0]; exact hb0⟩
  · rw [List.concat_eq_append] at e2
    subst e2
    refine ⟨x0, l ++ [y], ?_, hb0⟩
    show s.fr.dropLast ++ [y] = _
    have h3 : fr0 ++ x0 :: (l ++ [z]) = (fr0 ++ x0 :: l) ++ [z] := by simp
    rw [e, h3, List.dropLast_concat]
    simp
/-- One thing that is done. -/
theorem inv_do {s : FS} {B : Nat} (h : Inv s B) (o : S44) (hM : o.f4 ≤ 100) : Inv (fDo s o).1 (B + o.f6.length) ∧ (fDo s o).1.room = s.room ∧
    ∀ was fr0, Kept0 was fr0 s → (o.f0 ≠ 6 ∨ fr0.length + 1 < s.fr.length) → Kept0 was fr0 (fDo s o).1 := by
  have hb := h.base
  have hBl : B ≤ B + o.f6.length := by omega
  have idle : ∀ r : Bool, Inv (s, r).1 (B + o.f6.length) ∧ (s, r).1.room = s.room ∧ ∀ was fr0, Kept0 was fr0 s → (o.f0 ≠ 6 ∨ fr0.length + 1 < s.fr.length) → Kept0 was fr0 (s, r).1 := fun r => ⟨h.up hBl, rfl, fun _ _ hk _ => hk⟩
  have cutv : ∀ m : Nat, baseOf s.fr ≤ (m : Int) → m ≤ s.v.length → Inv { s with v := s.v.take m } (B + o.f6.length) ∧ ∀ was fr0, Kept0 was fr0 s → Kept0 was fr0 { s with v := s.v.take m } := by
    intro m h1 h2
    refine ⟨h.same _ (by have := h.vl; simp; omega) (by simp; omega) hBl, fun was fr0 hk => ⟨?_, hk.fr⟩⟩
    have := hk.base h
    exact List.prefix_take_iff.2 ⟨hk.v, by omega⟩
  unfold fDo
  by_cases h01 : o.f0 = 0 ∨ o.f0 = 1
  · rw [if_pos h01]
    exact ⟨h.same _ (by have := h.vl; simp; omega) (by simp; omega) hBl, rfl, fun was fr0 hk _ => ⟨hk.v.trans (List.prefix_append _ _), hk.fr⟩⟩
  rw [if_neg h01]
  by_cases h2 : o.f0 = 2
  · rw [if_pos h2]
    unfold fPop
    by_cases hn : hasN s 1
    · rw [if_pos hn]
      have hn2 := hn.2
      obtain ⟨c1, c2⟩ := cutv (s.v.length - 1) (by omega) (by omega)
      exact ⟨c1, rfl, fun was fr0 hk _ => c2 was fr0 hk⟩
    · rw [if_neg hn]; exact idle _
  rw [if_neg h2]
  by_cases h3 : o.f0 = 3
  · rw [if_pos h3]
    unfold fTake
    by_cases hn : hasN s o.f3
    · rw [if_pos hn]
      have hn1 := hn.1
      have hn2 := hn.2
      obtain ⟨c1, c2⟩ := cutv (s.v.length - o.f3.toNat) (by omega) (by omega)
      exact ⟨c1, rfl, fun was fr0 hk _ => c2 was fr0 hk⟩
    · rw [if_neg hn]; exact idle _
  rw [if_neg h3]
  by_cases h45 : o.f0 = 4 ∨ o.f0 = 5
  · rw [if_pos h45]
    unfold fEnter
    by_cases hd : s.room ≤ (s.fr.length : Int)
    · rw [if_pos hd]; exact idle _
    rw [if_neg hd]
    by_cases hs : o.f4 < 0 ∨ ¬ hasN s o.f3
    · rw [if_pos hs]; exact idle _
    rw [if_neg hs]
    have hn : hasN s o.f3 := Classical.byContradiction fun hh => hs (.inr hh)
    have h4 : 0 ≤ o.f4 := Classical.byContradiction fun hh => hs (.inl (by omega))
    have hn1 := hn.1
    have hn2 := hn.2
    obtain ⟨c1, c2⟩ := cutv (s.v.length - o.f3.toNat) (by omega) (by omega)
    refine ⟨⟨c1.vl, fun f hf => ?_, fun f hf => ?_, ?_, ?_⟩, rfl, fun was fr0 hk _ => ⟨(c2 was fr0 hk).v, ?_⟩⟩
    · rcases List.mem_append.1 hf with hf | hf
      · exact c1.loc f hf
      · rw [List.mem_singleton.1 hf]
        have := h.vl
        simp
        omega
    · rcases List.mem_append.1 hf with hf | hf
      · exact c1.nn f hf
      · rw [List.mem_singleton.1 hf]
        simp
    · refine List.pairwise_append.2 ⟨h.mono, List.pairwise_singleton _ _, fun a ha b hb' => ?_⟩
      rw [List.mem_singleton.1 hb']
      have := h.le_base a ha
      show a.base ≤ ((s.v.length - o.f3.toNat : Nat) : Int)
      omega
    · show ((s.fr ++ [_]).length : Int) ≤ max 0 s.room
      rw [List.length_append, List.length_singleton]
      omega
    · obtain ⟨x, more, e, hx⟩ := hk.fr
      exact ⟨x, more ++ [_], by show s.fr ++ [_] = _; rw [e]; simp; rfl, hx⟩
  rw [if_neg h45]
  by_cases h6 : o.f0 = 6
  · rw [if_pos h6]
    unfold fLeave
    by_cases hs : s.fr = [] ∨ ¬ hasN s o.f3
    · rw [if_pos hs]; exact idle _
    rw [if_neg hs]
    have hn : hasN s o.f3 := Classical.byContradiction fun hh => hs (.inr hh)
    have hn1 := hn.1
    have hn2 := hn.2
    have hvl := h.vl
    have hlen : (s.v.take (baseOf s.fr).toNat ++ s.v.drop (s.v.length - o.f3.toNat)).length = (baseOf s.fr).toNat + o.f3.toNat := by simp; omega
    refine ⟨⟨by show (s.v.take (baseOf s.fr).toNat ++ s.v.drop (s.v.length - o.f3.toNat)).length ≤ _; rw [hlen]; omega, fun f hf => ?_, fun f hf => ?_, ?_, ?_⟩, rfl, fun was fr0 hk hgo => ⟨?_, ?_⟩⟩
    · exact Nat.le_trans (h.loc f (List.dropLast_subset _ hf)) (by omega)
    · have h1 := h.le_base f (List.dropLast_subset _ hf)
      refine ⟨(h.nn f (List.dropLast_subset _ hf)).1, ?_⟩
      show f.base ≤ ((s.v.take (baseOf s.fr).toNat ++ s.v.drop (s.v.length - o.f3.toNat)).length : Int)
      rw [hlen]
      omega
    · exact h.mono.sublist (List.dropLast_sublist _)
    · have := h.fl
      show ((s.fr.dropLast.length : Nat) : Int) ≤ max 0 s.room
      rw [List.length_dropLast]
      omega
    · have := hk.base h
      refine List.IsPrefix.trans (List.prefix_take_iff.2 ⟨hk.v, ?_⟩) (List.prefix_append _ _)
      omega
    · obtain ⟨x, more, e, hx⟩ := hk.fr
      have hlt := hgo.resolve_left (fun hh => hh h6)
      rcases List.eq_nil_or_concat more with e2 | ⟨l, z, e2⟩
      · rw [e, e2] at hlt; simp at hlt
      · rw [List.concat_eq_append] at e2
        refine ⟨x, l, ?_, hx⟩
        show s.fr.dropLast = _
        have h3 : fr0 ++ x :: (l ++ [z]) = (fr0 ++ x :: l) ++ [z] := by simp
        rw [e, e2, h3, List.dropLast_concat]
  rw [if_neg h6]
  by_cases h7 : o.f0 = 7
  · rw [if_pos h7]
    unfold fCut
    by_cases hs : s.fr = [] ∨ o.f3 < 0 ∨ o.f4 < 0 ∨ ¬ hasN s o.f3 ∨ (s.v.length : Int) - baseOf s.fr - o.f3 < o.f4
    · rw [if_pos hs]; exact idle _
    rw [if_neg hs]
    simp only [not_or, Classical.not_not] at hs
    obtain ⟨q1, q2, q3, q4, q5⟩ := hs
    have hn2 := q4.2
    have hvl := h.vl
    have hlen : (s.v.take (baseOf s.fr + o.f3).toNat ++ s.v.drop (s.v.length - o.f4.toNat)).length = (baseOf s.fr + o.f3).toNat + o.f4.toNat := by simp; omega
    refine ⟨h.same _ (by rw [hlen]; omega) (by rw [hlen]; omega) hBl, rfl, fun was fr0 hk _ => ⟨?_, hk.fr⟩⟩
    have := hk.base h
    exact List.IsPrefix.trans (List.prefix_take_iff.2 ⟨hk.v, by omega⟩) (List.prefix_append _ _)
  rw [if_neg h7]
  by_cases h8 : o.f0 = 8
  · rw [if_pos h8]
    unfold fGo
    split
    · exact idle _
    · rename_i x hx
      exact ⟨(h.last (last_some hx) { x with pc := o.f2 } rfl rfl).up hBl, rfl, fun was fr0 hk _ => hk.last (last_some hx) { x with pc := o.f2 } rfl⟩
  rw [if_neg h8]
  by_cases h9 : o.f0 = 9
  · rw [if_pos h9]
    unfold fSet
    split
    · exact idle _
    · rename_i x hx
      split
      · exact ⟨(h.last (last_some hx) { x with loc := x.loc.set o.f3.toNat o.f5 } rfl (by simp)).up hBl, rfl, fun was fr0 hk _ => hk.last (last_some hx) { x with loc := x.loc.set o.f3.toNat o.f5 } rfl⟩
      · exact idle _
  rw [if_neg h9]
  exact idle _
theorem inv_new (r : Int) : Inv ⟨[], [], r⟩ 0 := ⟨Nat.le_refl _, (fun f hf => nomatch hf), (fun f hf => nomatch hf), List.Pairwise.nil, by show ((0 : Nat) : Int) ≤ _; omega⟩
theorem leave0 {s : FS} {B : Nat} (h : Inv s B) (hf : s.fr ≠ []) : fLeave s 0 = ((fDo s ⟨6, 0, 0, 0, 0, 0, []⟩).1, true) := by
  have hb := h.base
  have e : (fDo s ⟨6, 0, 0, 0, 0, 0, []⟩) = fLeave s 0 := rfl
  rw [e]
  unfold fLeave
  have hn : hasN s 0 := ⟨Int.le_refl _, by omega⟩
  rw [if_neg (by rintro (h | h); exact hf h; exact h hn)]
theorem leave0_len {s : FS} {B : Nat} (h : Inv s B) (hf : s.fr ≠ []) : (fDo s ⟨6, 0, 0, 0, 0, 0, []⟩).1.fr.length = s.fr.length - 1 := by
  have hb := h.base
  show (fLeave s 0).1.fr.length = _
  unfold fLeave
  have hn : hasN s 0 := ⟨Int.le_refl _, by omega⟩
  rw [if_neg (by rintro (h | h); exact hf h; exact h hn)]
  simp
/-- The function's own frame is left with one value. -/
theorem leave1 {s : FS} {B : Nat} {was : List Int} {fr0 : List Fm} (h : Inv s B) (hk : Kept0 was fr0 s) (hl : s.fr.length = fr0.length + 1) (y : Int) : fLeave { s with v := s.v ++ [y] } 1 = (⟨was ++ [y], fr0, s.room⟩, true) := by
  obtain ⟨x, more, e, hb⟩ := hk.fr
  have hm : more = [] := by rw [e] at hl; simp at hl; exact hl
  subst hm
  obtain ⟨rest, hv⟩ := hk.v
  have hbo : baseOf s.fr = (was.length : Int) := by rw [e, baseOf_concat, hb]
  unfold fLeave
  dsimp only
  rw [hbo, if_neg (by
    rintro (h1 | h1)
    · rw [e] at h1; simp at h1
    · refine h1 ⟨by omega, ?_⟩
      show (1 : Int) ≤ ((s.v ++ [y]).length : Int) - baseOf s.fr
      rw [hbo, ← hv]
      simp
      omega)]
  rw [e, ← hv]
  simp
theorem enter_deep {s : FS} (h : (s.fr.length : Int) = s.room) (a b c d : Int) : fEnter s a b c d = (s, 9) := by
  unfold fEnter
  rw [if_pos (by omega)]
theorem enter_ok {s : FS} {B : Nat} (hi : Inv s B) (h : (s.fr.length : Int) < s.room) (a b : Int) (args : List Int) (n d : Nat) (hn : args.length = n) :
    fEnter { s with v := s.v ++ args } a b (n : Int) (d : Int) = ({ s with fr := s.fr ++ [⟨a, b, args ++ List.replicate d 0, (s.v.length : Int)⟩] }, 0) := by
  subst hn
  have hb := hi.base
  unfold fEnter
  dsimp only
  rw [if_neg (by omega), if_neg (by
    rintro (h1 | h1)
    · omega
    · refine h1 ⟨by omega, ?_⟩
      show (args.length : Int) ≤ ((s.v ++ args).length : Int) - baseOf s.fr
      simp
      omega)]
  simp
theorem kept_enter {s : FS} {B : Nat} (hi : Inv s B) (h : (s.fr.length : Int) < s.room) (a b : Int) (l : List Int) (hl : l.length ≤ B + 100) :
    Inv { s with fr := s.fr ++ [⟨a, b, l, (s.v.length : Int)⟩] } B ∧ Kept0 s.v s.fr { s with fr := s.fr ++ [⟨a, b, l, (s.v.length : Int)⟩] } := by
  refine ⟨⟨hi.vl, fun f hf => ?_, fun f hf => ?_, ?_, ?_⟩, ⟨List.prefix_refl _, ⟨_, [], rfl, rfl⟩⟩⟩
  · rcases List.mem_append.1 hf with hf | hf
    · exact hi.loc f hf
    · rw [List.mem_singleton.1 hf]; exact hl
  · rcases List.mem_append.1 hf with hf | hf
    · exact hi.nn f hf
    · rw [List.mem_singleton.1 hf]
      exact ⟨by show (0 : Int) ≤ (s.v.length : Int); omega, Int.le_refl _⟩
  · refine List.pairwise_append.2 ⟨hi.mono, List.pairwise_singleton _ _, fun a ha b hb' => ?_⟩
    rw [List.mem_singleton.1 hb']
    exact (hi.nn a ha).2
  · show ((s.fr ++ [_]).length : Int) ≤ max 0 s.room
    rw [List.length_append, List.length_singleton]
    omega
end Go.Proofs.Ytbbgkelcdooabaa.G
