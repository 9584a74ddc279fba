/- What sect.Split tells of any bytes: sections that may be, whose bytes are no more than those. -/
import Derived.Test.YtoeknjmdlmhajaaDoorSectP
namespace Go.Proofs.YtoeknjmdlmhajaaDoor.Pure
open Go.RowKit Go.Proofs.YtoeknjmdlmhajaaDoor.G Go.Proofs.YtoeknjmdlmhajaaDoorW.PrintWords Go.Proofs.YtoeknjmdlmhajaaDoorW.PrintLast Go.Proofs.YtoeknjmdlmhajaaDoorW.PrintMore Go.Proofs.YtoeknjmdlmhajaaDoor.LebM Go.Proofs.YtoeknjmdlmhajaaDoor.LebV
set_option linter.unusedVariables false
set_option linter.unusedSimpArgs false
theorem uB_min {g : List Int} (hg : Grp g) (h : val g < 18446744073709551616) : (uB 9 (val g)).length ≤ g.length := by
  have h0 := val_nonneg hg
  have hp := hg.pos
  rw [uB_length 9 (val g) h0 (by omega) h]
  have hlt := val_lt hg
  have hb : Lib.bitLen (val g).toNat ≤ 7 * g.length := bitLen_le _ _ (by
    have : ((val g).toNat : Int) < ((2 ^ (7 * g.length) : Nat) : Int) := by rw [Int.toNat_of_nonneg h0]; simpa using hlt
    exact_mod_cast this)
  omega
theorem rU_min (l : List Int) (hl : allB l) (a b v n : Int) (h1 : 1 ≤ b) (h2 : b ≤ 64) (h : rU l a b = (v, n, 0)) (hv : v < 18446744073709551616) : ((uB 9 v).length : Int) ≤ n - a := by
  unfold rU at h
  by_cases hc : 1 ≤ b ∧ b ≤ 64 ∧ 0 ≤ a ∧ a ≤ (l.length : Int)
  · rw [if_pos hc] at h
    rcases take7_tells ((b.toNat + 6) / 7) (l.drop a.toNat) (allB_drop hl _) with ⟨g1, g2, g3, t, g4⟩ | g | g
    · rw [if_pos g1] at h
      split at h
      · simp only [Prod.mk.injEq, and_true] at h
        obtain ⟨rfl, rfl⟩ := h
        have := uB_min g2 hv
        omega
      · simp at h
    · rw [if_neg (by omega), g] at h
      simp at h
    · rw [if_neg (by omega), g] at h
      simp at h
  · rw [if_neg hc] at h
    simp at h
/-- The section at a place in any bytes. -/
theorem next_any (b : List Int) (hb : allB b) (hL : b.length ≤ 65536) (i : Nat) (hi : i < b.length) :
    (∃ (s : S38) (to_ n nx : Int), sect_next.f b (i : Int) = some (s.f0, s.f1, to_, 0) ∧ s.f0 = rd b (i : Int) ∧ s.f0 ≤ 11 ∧ 0 ≤ s.f0 ∧ rU b ((i : Int) + 1) 32 = (n, nx, 0) ∧ 0 ≤ n ∧ n ≤ (b.length : Int) - nx ∧ (i : Int) + 1 < nx ∧ nx ≤ (b.length : Int) ∧ to_ = nx + n ∧
      s.f1 = (b.take to_.toNat).drop nx.toNat ∧ allB s.f1 ∧ (s.f1.length : Int) = n ∧ (i : Int) + (encS s).length ≤ to_) ∨
    ∃ e, sect_next.f b (i : Int) = some (0, [], 0, e) ∧ e ≠ 0 ∧ (rd b (i : Int) > 11 ∧ e = 3 ∨ rd b (i : Int) ≤ 11 ∧ (∃ n nx, rU b ((i : Int) + 1) 32 = (n, nx, e) ∧ e ≠ 0) ∨ rd b (i : Int) ≤ 11 ∧ ∃ n nx, rU b ((i : Int) + 1) 32 = (n, nx, 0) ∧ n > (b.length : Int) - nx ∧ nx ≤ (b.length : Int) ∧ 0 ≤ nx ∧ e = 2) := by
  have hb' : b.all u8byte = true := List.all_eq_true.2 (fun x hx => by have := hb x hx; simp only [u8byte, decide_eq_true_eq]; exact this)
  obtain ⟨r0, r1⟩ := byte_at hb' i hi
  unfold sect_next.f
  rw [if_pos (by omega), if_pos (by omega), w64 (rd b (i : Int)) (by omega) (by omega)]
  by_cases c1 : rd b (i : Int) > 11
  · rw [if_pos c1]
    exact .inr ⟨3, rfl, by decide, .inl ⟨c1, rfl⟩⟩
  · rw [if_neg c1, w64 ((i : Int) + 1) (by omega) (by omega), ReadU_f b hb _ _ (by omega)]
    simp only [Option.bind_some]
    rcases rU_cases b hb ((i : Int) + 1) 32 (by omega) (by omega) with ⟨v, n, h, h1, h2, h3, h4, h5⟩ | ⟨e, h, h1⟩
    · have h2' : v < 4294967296 := h2
      have hm := rU_min b hb _ _ _ _ (by omega) (by omega) h (by omega)
      rw [h]
      simp only
      rw [if_pos trivial, w64 ((b.length : Int) - n) (by omega) (by omega), wrap_u64, Int.emod_eq_of_lt (by omega) (by omega)]
      by_cases c2 : v > (b.length : Int) - n
      · rw [if_pos c2]
        exact .inr ⟨2, rfl, by decide, .inr (.inr ⟨by omega, v, n, rfl, c2, h5, by omega, rfl⟩)⟩
      · rw [if_neg c2, w64 v (by omega) (by omega), w64 (n + v) (by omega) (by omega), if_pos (by omega), if_pos (by omega), if_pos (by omega)]
        unfold bytes_Clone.f
        have hl : ((b.take (n + v).toNat).drop n.toNat).length = v.toNat := by rw [List.length_drop, List.length_take]; omega
        rw [if_pos (by omega), Option.bind_some]
        refine .inl ⟨⟨rd b (i : Int), (b.take (n + v).toNat).drop n.toNat⟩, n + v, v, n, rfl, rfl, (show rd b (i : Int) ≤ 11 by omega), r0, rfl, h1, by omega, by omega, h5, rfl, rfl, fun x hx => hb x (List.mem_of_mem_take (List.mem_of_mem_drop hx)), ?_, ?_⟩
        · rw [hl]; omega
        · unfold encS
          simp only [List.length_cons, List.length_append, hl]
          rw [Int.toNat_of_nonneg h1]
          omega
    · rw [h]
      simp only
      rw [if_neg (by omega)]
      exact .inr ⟨e, rfl, by omega, .inr (.inl ⟨by omega, 0, 0, rfl, by omega⟩)⟩
/-- What Split tells of any bytes, from a place on. -/
theorem split_tells (b : List Int) (hb : allB b) (hL : b.length ≤ 65536) : ∀ (d k i : Nat) (out : List S38) (last : Int), i + d = b.length → 2 * d + 2 ≤ k → 0 ≤ last → out.length + d ≤ 1000000 →
    ∃ r, sect_Split.l0 k b out (i : Int) last = some r ∧ ((∃ l, r = (out ++ l, 0) ∧ okS last l ∧ small l ∧ (encL l).length ≤ d) ∨ (r.1 = [] ∧ r.2 ≠ 0)) := by
  intro d
  induction d using Nat.strongRecOn with
  | ind d ih =>
    intro k i out last hi hk hl ho
    obtain ⟨k, rfl⟩ : ∃ m, k = m + 2 := ⟨k - 2, by omega⟩
    by_cases hd : d = 0
    · rw [show k + 2 = (k + 1) + 1 from rfl, split_nil _ _ _ _ _ (by omega)]
      exact ⟨_, rfl, .inl ⟨[], by simp, trivial, (fun s hs => by cases hs), by rw [encL_nil]; exact Nat.zero_le _⟩⟩
    · rw [show k + 2 = (k + 1) + 1 from rfl]
      simp only [sect_Split.l0]
      rw [if_pos (by omega)]
      have herr : ∀ e x y z w, e ≠ 0 → ∃ r, sect_Split.j1 (k + 1) b out x e y z w = some r ∧ ((∃ l, r = (out ++ l, 0) ∧ okS last l ∧ small l ∧ (encL l).length ≤ d) ∨ (r.1 = [] ∧ r.2 ≠ 0)) := by
        intro e x y z w he
        simp only [sect_Split.j1]
        rw [if_neg he]
        exact ⟨_, rfl, .inr ⟨rfl, he⟩⟩
      rcases next_any b hb hL i (by omega) with ⟨s, to_, n, nx, h, h0, h1, h2, h3, h4, h5, h6, h7, h8, h9, h10, h11, h12⟩ | ⟨e, h, he, _⟩
      · rw [h, Option.bind_some]
        simp only
        rw [if_pos trivial, named_f _ _ h10 (by omega), Option.bind_some]
        by_cases c : (if s.f0 = 0 then nmE s.f1 else 0) = 0
        · rw [c]
          simp only [sect_Split.j1]
          rw [if_pos trivial]
          by_cases c4 : s.f0 = 0 ∨ last < s.f0
          · have hone : one last s := ⟨h2, h1, fun h => by rw [if_pos h] at c; exact c, c4⟩
            have hes := encS_len s (by omega)
            rw [takes_one hone hl, Option.bind_some]
            simp only [if_true]
            obtain ⟨t, rfl⟩ : ∃ t : Nat, to_ = (t : Int) := ⟨to_.toNat, by omega⟩
            rw [if_pos (by omega)]
            obtain ⟨r, g1, g2⟩ := ih (b.length - t) (by omega) k t (out ++ [s]) (mx last s.f0) (by omega) (by omega) (mx_one hone hl).1 (by simp; omega)
            refine ⟨r, g1, ?_⟩
            rcases g2 with ⟨l, rfl, g3, g4, g5⟩ | g2
            · refine .inl ⟨s :: l, by simp, ⟨hone, g3⟩, small_cons.2 ⟨⟨h10, by omega⟩, g4⟩, ?_⟩
              rw [encL_cons, List.length_append]
              omega
            · exact .inr g2
          · have ht : sect_order_takes.f last s.f0 = some (false, mx last s.f0) := by
              unfold sect_order_takes.f
              rw [if_neg (by omega), decide_eq_false (by omega)]
            rw [ht, Option.bind_some]
            exact ⟨_, rfl, .inr ⟨rfl, (show (3 : Int) ≠ 0 by decide)⟩⟩
        · exact herr _ _ _ _ _ c
      · rw [h, Option.bind_some]
        simp only
        rw [if_neg he]
        exact herr _ _ _ _ _ he
theorem split_tells_f (b : List Int) (hb : allB b) (k : Nat) (hk : 2 * b.length + 20 ≤ k) :
    ∃ r, sect_Split.f k b = some r ∧ ((∃ l, r = (l, 0) ∧ okS 0 l ∧ small l ∧ (h8 ++ encL l).length ≤ b.length ∧ b.length ≤ 65536) ∨ (r.1 = [] ∧ r.2 ≠ 0)) := by
  by_cases c1 : b.length ≤ 65536
  · by_cases c2 : 8 ≤ b.length
    · by_cases c3 : b.take 8 = h8
      · rw [split_f k b hb c1 c2 c3]
        obtain ⟨r, g1, g2⟩ := split_tells b hb c1 (b.length - 8) k 8 [] 0 (by omega) (by omega) (by omega) (by simp; omega)
        refine ⟨r, g1, ?_⟩
        rcases g2 with ⟨l, rfl, g3, g4, g5⟩ | g2
        · exact .inl ⟨l, by simp, g3, g4, by rw [List.length_append]; simp [h8]; omega, c1⟩
        · exact .inr g2
      · unfold sect_Split.f
        rw [if_neg (by omega), if_neg (by omega), show ([0, 97, 115, 109, 1, 0, 0, 0] : List Int) = h8 from rfl, pre_f b hb, Option.bind_some, decide_eq_false (fun h => c3 h.2), if_neg (by decide)]
        exact ⟨_, rfl, .inr ⟨rfl, by decide⟩⟩
    · unfold sect_Split.f
      rw [if_neg (by omega), if_pos (by omega)]
      exact ⟨_, rfl, .inr ⟨rfl, by decide⟩⟩
  · unfold sect_Split.f
    rw [if_pos (by omega)]
    exact ⟨_, rfl, .inr ⟨rfl, by decide⟩⟩
end Go.Proofs.YtoeknjmdlmhajaaDoor.Pure
