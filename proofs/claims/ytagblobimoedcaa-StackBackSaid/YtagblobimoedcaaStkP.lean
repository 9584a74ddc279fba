/- Stacks that grow: what is sane stays so. Plain law, no walk. -/
import Derived.Test.YtagblobimoedcaaStkK
namespace Go.Proofs.Ytagblobimoedcaa.G
open Go.RowKit Go.Proofs.YtagblobimoedcaaW.PrintWords Go.Proofs.YtagblobimoedcaaW.PrintLast Go.Proofs.YtagblobimoedcaaW.PrintMore
set_option linter.unusedVariables false
set_option linter.unusedSimpArgs false
theorem kHts_snoc (c : S31) : ∀ (cs : List S31) (last : Int), kHts last (cs ++ [c]) = (kHts last cs).bind fun la => if kLeft c.f1 = true ∧ la ≤ c.f2 then some c.f2 else none
  | [], last => by simp [kHts]
  | d :: cs, last => by
    rw [List.cons_append, kHts, kHts]
    split
    · exact kHts_snoc c cs d.f2
    · rfl
theorem top_split {cs : List S31} (hne : cs ≠ []) : cs = cs.dropLast ++ [kTop cs] := by
  rw [kTop_last hne]
  have := List.dropLast_concat_getLast hne
  rw [List.getLastD_eq_getLast?, List.getLast?_eq_some_getLast hne]
  exact this.symm
theorem dead_split {cs : List S31} (hne : cs ≠ []) : kDead cs = cs.dropLast ++ [{ kTop cs with f3 := true }] := by
  unfold kDead
  have h0 : 0 < cs.length := List.length_pos_iff.2 hne
  apply List.ext_getElem
  · simp; omega
  · intro i h1 h2
    rw [List.getElem_set]
    rw [List.length_set] at h1
    by_cases hi : cs.length - 1 = i
    · rw [if_pos hi, List.getElem_append_right (by simp; omega)]
      simp [hi]
    · rw [if_neg hi, List.getElem_append_left (by simp; omega), List.getElem_dropLast]
/-- sane, as what it says. -/
theorem sane_iff (v : List Int) (cs : List S31) : kSane v cs = true ↔ ∃ la, kHts 0 cs = some la ∧ la ≤ (v.length : Int) ∧ v.all stTy_okT = true := by
  unfold kSane
  cases h : kHts 0 cs with
  | none => simp [kEnd]
  | some la => simp [kEnd]
theorem sane_nil : kSane [] [] = true := rfl
theorem all_take {l : List Int} {f : Int → Bool} (h : l.all f = true) (m : Nat) : (l.take m).all f = true := by
  rw [List.all_eq_true] at h ⊢
  intro x hx
  exact h x (List.mem_of_mem_take hx)
theorem sane_push {v : List Int} {cs : List S31} {l : List Int} (h : kSane v cs = true) (hl : l.all stTy_okT = true) : kSane (v ++ l) cs = true := by
  obtain ⟨la, h1, h2, h3⟩ := (sane_iff v cs).1 h
  exact (sane_iff _ _).2 ⟨la, h1, by rw [List.length_append]; omega, by rw [List.all_append, h3, hl]; rfl⟩
theorem kPop_ge (v : List Int) (h : Int) (d : Bool) (hh : h ≤ (v.length : Int)) : h ≤ ((kPop v h d).1.length : Int) := by
  unfold kPop
  split
  · simp; omega
  · split <;> exact hh
theorem kWant_ge (h : Int) (d : Bool) : ∀ (ts v : List Int), h ≤ (v.length : Int) → h ≤ ((kWant h d ts v).1.length : Int)
  | [], v, hh => hh
  | t :: ts, v, hh => by
    have h1 := kPop_ge v h d hh
    rw [kWant]
    split
    · split
      · exact h1
      · exact kWant_ge h d ts _ h1
    · exact h1
theorem hts_top {cs : List S31} {la : Int} (h : kHts 0 cs = some la) (hne : cs ≠ []) : la = (kTop cs).f2 := by
  rw [kTop_last hne]
  exact (kHts_top h hne).1
theorem sane_cut {v : List Int} {cs : List S31} {m : Nat} (h : kSane v cs = true) (hne : cs ≠ []) (hm : (kTop cs).f2 ≤ ((v.take m).length : Int)) : kSane (v.take m) cs = true := by
  obtain ⟨la, h1, h2, h3⟩ := (sane_iff v cs).1 h
  exact (sane_iff _ _).2 ⟨la, h1, by rw [hts_top h1 hne]; exact hm, all_take h3 m⟩
theorem sane_pop {v : List Int} {cs : List S31} (h : kSane v cs = true) (hne : cs ≠ []) : kSane (kPop v (kTop cs).f2 (kTop cs).f3).1 cs = true := by
  obtain ⟨m, hm, e⟩ := kPop_take v (kTop cs).f2 (kTop cs).f3
  have h1 := kPop_ge v (kTop cs).f2 (kTop cs).f3 (sane_top h hne).2.1
  rw [e] at h1 ⊢
  exact sane_cut h hne h1
theorem sane_want {v : List Int} {cs : List S31} (ts : List Int) (h : kSane v cs = true) (hne : cs ≠ []) : kSane (kWant (kTop cs).f2 (kTop cs).f3 ts v).1 cs = true := by
  obtain ⟨m, hm, e⟩ := kWant_take (h := (kTop cs).f2) (d := (kTop cs).f3) ts v
  have h1 := kWant_ge (kTop cs).f2 (kTop cs).f3 ts v (sane_top h hne).2.1
  rw [e] at h1 ⊢
  exact sane_cut h hne h1
theorem sane_open {v : List Int} {cs : List S31} {e : List Int} (op : Int) (d : Bool) (h : kSane v cs = true) (he : kLeft e = true) : kSane v (cs ++ [⟨op, e, (v.length : Int), d⟩]) = true := by
  obtain ⟨la, h1, h2, h3⟩ := (sane_iff v cs).1 h
  refine (sane_iff _ _).2 ⟨(v.length : Int), ?_, Int.le_refl _, h3⟩
  rw [kHts_snoc, h1, Option.bind_some, if_pos ⟨he, h2⟩]
theorem hts_drop {cs : List S31} {la : Int} (h : kHts 0 cs = some la) (hne : cs ≠ []) : ∃ lb, kHts 0 cs.dropLast = some lb ∧ lb ≤ (kTop cs).f2 ∧ kLeft (kTop cs).f1 = true := by
  rw [top_split hne, kHts_snoc] at h
  cases h1 : kHts 0 cs.dropLast with
  | none => rw [h1] at h; exact absurd h (by simp)
  | some lb =>
    rw [h1, Option.bind_some] at h
    split at h
    · rename_i hc
      exact ⟨lb, rfl, hc.2, hc.1⟩
    · exact absurd h (by simp)
theorem sane_close {v v2 : List Int} {cs : List S31} (h : kSane v cs = true) (hne : cs ≠ []) (hv : kSane v2 cs = true) (hl : (v2.length : Int) = (kTop cs).f2) : kSane v2 cs.dropLast = true := by
  obtain ⟨la, h1, h2, h3⟩ := (sane_iff v2 cs).1 hv
  obtain ⟨lb, g1, g2, _⟩ := hts_drop h1 hne
  exact (sane_iff _ _).2 ⟨lb, g1, by rw [hl]; exact g2, h3⟩
theorem sane_dead {v : List Int} {cs : List S31} (h : kSane v cs = true) (hne : cs ≠ []) : kSane v (kDead cs) = true := by
  obtain ⟨la, h1, h2, h3⟩ := (sane_iff v cs).1 h
  obtain ⟨lb, g1, g2, g3⟩ := hts_drop h1 hne
  refine (sane_iff _ _).2 ⟨(kTop cs).f2, ?_, by rw [← hts_top h1 hne]; exact h2, h3⟩
  rw [dead_split hne, kHts_snoc, g1, Option.bind_some]
  exact if_pos ⟨g3, g2⟩
theorem kDead_top {cs : List S31} (hne : cs ≠ []) : kTop (kDead cs) = { kTop cs with f3 := true } := by
  rw [kTop_last (by rw [dead_split hne]; simp), dead_split hne]
  simp
theorem kDead_ne {cs : List S31} (hne : cs ≠ []) : kDead cs ≠ [] := by rw [dead_split hne]; simp
theorem sane_kill {v : List Int} {cs : List S31} (h : kSane v cs = true) (hne : cs ≠ []) : kSane (v.take (kTop cs).f2.toNat) (kDead cs) = true := by
  have ht := sane_top h hne
  refine sane_cut (sane_dead h hne) (kDead_ne hne) ?_
  rw [kDead_top hne, List.length_take]
  show (kTop cs).f2 ≤ _
  omega
theorem sane_try {v : List Int} {cs : List S31} (h : kSane v cs = true) (x : S47) (h0 : (gTry v cs x).2.2 = 0) : kSane (gTry v cs x).1 (gTry v cs x).2.1 = true := by
  unfold gTry at h0 ⊢
  split
  · rename_i c
    rw [if_pos c] at h0
    unfold sPush at h0 ⊢
    split
    · rename_i c2; exact sane_push h c2.2
    · exact sane_nil
  rename_i c1
  rw [if_neg c1] at h0
  split
  · unfold sPop
    rw [if_neg (by rw [h]; decide)]
    split
    · exact sane_nil
    · rename_i hne
      split
      · exact sane_pop h hne
      · exact sane_nil
  rename_i c2
  rw [if_neg c2] at h0
  split
  · unfold sWant
    rw [if_neg (by rw [h]; decide)]
    split
    · exact h
    · split
      · exact sane_nil
      · rename_i hne
        split
        · exact sane_want _ h hne
        · exact sane_nil
  rename_i c3
  rw [if_neg c3] at h0
  split
  · unfold sOpen
    split
    · rename_i c; exact sane_open _ _ h c.2
    · exact sane_nil
  rename_i c4
  rw [if_neg c4] at h0
  split
  · unfold sClose
    rw [if_neg (by rw [h]; decide)]
    split
    · exact sane_nil
    · rename_i hne
      split
      · split
        · rename_i hl
          exact sane_close h hne (sane_want _ h hne) hl
        · exact sane_nil
      · exact sane_nil
  rename_i c5
  rw [if_neg c5] at h0
  split
  · unfold sKill
    rw [if_neg (by rw [h]; decide)]
    split
    · exact sane_nil
    · rename_i hne; exact sane_kill h hne
  · exact h
theorem sane_step {s : List Int × List S31} (h : kSane s.1 s.2 = true) (x : S47) : kSane (gStep s x).1 (gStep s x).2 = true := by
  unfold gStep
  split
  · rename_i h0; exact sane_try h x h0
  · exact h
theorem sane_fold (l : List S47) : ∀ s : List Int × List S31, kSane s.1 s.2 = true → kSane (l.foldl gStep s).1 (l.foldl gStep s).2 = true := by
  induction l with
  | nil => exact fun s h => h
  | cons x l ih => exact fun s h => ih _ (sane_step h x)
theorem sane_all (l : List S47) : kSane (gAll l).1 (gAll l).2 = true := sane_fold l ([], []) sane_nil
theorem hts_mem : ∀ {cs : List S31} {last la : Int}, kHts last cs = some la → ∀ c ∈ cs, last ≤ c.f2 ∧ c.f2 ≤ la
  | [], _, _, _, c, hc => by simp at hc
  | d :: cs, last, la, h, c, hc => by
    unfold kHts at h
    split at h
    · rename_i hd
      have hge := kHts_ge h
      rcases List.mem_cons.1 hc with rfl | hc
      · exact ⟨hd.2, hge⟩
      · have := hts_mem h c hc
        omega
    · exact absurd h (by simp)
theorem sane_mem {v : List Int} {cs : List S31} (h : kSane v cs = true) (c : S31) (hc : c ∈ cs) : 0 ≤ c.f2 ∧ c.f2 ≤ (v.length : Int) := by
  obtain ⟨la, h1, h2, _⟩ := (sane_iff v cs).1 h
  have := hts_mem h1 c hc
  omega
/-! ### few -/
def fewB (l : List S47) : Bool := decide (l.length ≤ 100) && l.all fun x => decide (x.f2.length ≤ 20)
theorem fewB_iff (l : List S47) : fewB l = true ↔ fewA l := by simp [fewB, fewA]
theorem few_l (l : List S47) (hl : l.length ≤ 100) : ∀ (n i : Nat), n + i = l.length → avocetlaw09_few.l0 (n + 1) l (i : Int) = some ((l.drop i).all fun x => decide (x.f2.length ≤ 20)) := by
  intro n
  induction n with
  | zero =>
    intro i h
    rw [List.drop_eq_nil_of_le (by omega)]
    simp only [avocetlaw09_few.l0]
    rw [if_neg (by omega)]
    rfl
  | succ n ih =>
    intro i h
    have hlt : i < l.length := by omega
    rw [List.drop_eq_getElem_cons hlt, avocetlaw09_few.l0, if_pos (by omega), if_pos (by omega), rd47 hlt, List.all_cons]
    by_cases h2 : l[i].f2.length ≤ 20
    · have hw : wrap64 ((i : Int) + 1) = ((i + 1 : Nat) : Int) := by unfold wrap64; omega
      rw [if_neg (by omega), hw, ih (i + 1) (by omega), decide_eq_true h2, Bool.true_and]
    · rw [if_pos (by omega), decide_eq_false h2, Bool.false_and]
theorem few_f (l : List S47) : ∃ k, avocetlaw09_few.f k l = some (fewB l) := by
  by_cases hl : l.length ≤ 100
  · refine ⟨l.length + 1, ?_⟩
    unfold avocetlaw09_few.f fewB
    have := few_l l hl l.length 0 (by omega)
    rw [List.drop_zero] at this
    rw [if_neg (by omega), decide_eq_true hl, Bool.true_and]
    exact this
  · refine ⟨1, ?_⟩
    unfold avocetlaw09_few.f fewB
    rw [if_pos (by omega), decide_eq_false hl, Bool.false_and]
theorem fewS {w : World} {A : Option Addr} {c : Nat} {l : List S47} (hC : Kd.C k47 w A l.length l) (hc : l.length ≤ c) : Calls Try.prog 10 #[.slice A l.length c] w fun e w' => e = .returned (.bool (fewB l)) ∧ Below w.heap.size w w' := by
  obtain ⟨k, hk⟩ := few_f l
  exact (avocetlaw09_few.calls k A c l _ w hC hc hk).mono (fun e w' h => ⟨h.1, by first | exact h.2 | exact drawn_below h.2⟩)
end Go.Proofs.Ytagblobimoedcaa.G
