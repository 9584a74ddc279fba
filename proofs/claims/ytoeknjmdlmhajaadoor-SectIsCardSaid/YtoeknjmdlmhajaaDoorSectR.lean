/- The document's Split, Join, Find and Custom tell of any bytes and sections what the program's tell. -/
import Derived.Test.YtoeknjmdlmhajaaDoorSectQ
import Derived.Test.YtoeknjmdlmhajaaDoorUtfS
import Derived.Test.YtoeknjmdlmhajaaDoorG4
import Derived.Test.YtoeknjmdlmhajaaDoorG7
import Derived.Test.YtoeknjmdlmhajaaDoorG8
namespace Go.Proofs.YtoeknjmdlmhajaaDoor.Pure
open Go.RowKit Go.Proofs.YtoeknjmdlmhajaaDoor.G Go.Proofs.YtoeknjmdlmhajaaDoorW.PrintWords Go.Proofs.YtoeknjmdlmhajaaDoorW.PrintLast Go.Proofs.YtoeknjmdlmhajaaDoorW.PrintMore Go.Proofs.YtoeknjmdlmhajaaDoor.LebM Go.Proofs.YtoeknjmdlmhajaaDoor.LebV Go.Proofs.YtoeknjmdlmhajaaDoor.LebD
set_option linter.unusedVariables false
set_option linter.unusedSimpArgs false
theorem all_of {l : List Int} (hb : allB l) : l.all u8byte = true := List.all_eq_true.2 (fun x hx => by have := hb x hx; simp only [u8byte, decide_eq_true_eq]; exact this)
theorem refName_e (l : List Int) (hb : allB l) (hL : l.length ≤ 100000) (k : Nat) (hk : 200 ≤ k) : ∃ r, avocetref03_Name.f k l 0 = some r ∧ r.2.2 = nmE l := by
  obtain ⟨r, h1, h2⟩ := name_eq l (all_of hb) hL 0 k hk
  refine ⟨r, h2, ?_⟩
  unfold nmE
  rw [h1]
theorem mx_le (a b : Int) (h : b ≤ a) : mx a b = a := by unfold mx; split <;> omega
/-- The two Splits, from a place on. -/
theorem split_same (b : List Int) (hb : allB b) (hL : b.length ≤ 65536) : ∀ (d k k' i : Nat) (out : List S38) (last : Int), i + d = b.length → 2 * d + 2 ≤ k → d + 300 ≤ k' → 0 ≤ last → out.length + d ≤ 1000000 →
    ∃ r, sect_Split.l0 k b out (i : Int) last = some r ∧ avocetref07_Split.l0 k' b (out.map to36) last (i : Int) = some (r.1.map to36, r.2) := by
  intro d
  induction d using Nat.strongRecOn with
  | ind d ih =>
    intro k k' i out last hi hk hk' hl ho
    obtain ⟨k, rfl⟩ : ∃ m, k = m + 2 := ⟨k - 2, by omega⟩
    obtain ⟨k', rfl⟩ : ∃ m, k' = m + 1 := ⟨k' - 1, by omega⟩
    by_cases hd : d = 0
    · rw [show k + 2 = (k + 1) + 1 from rfl, split_nil _ _ _ _ _ (by omega)]
      simp only [avocetref07_Split.l0]
      rw [if_neg (by omega)]
      exact ⟨_, rfl, rfl⟩
    · have hil : i < b.length := by omega
      obtain ⟨q0, q1⟩ := byte_at (all_of hb) i hil
      rw [show k + 2 = (k + 1) + 1 from rfl]
      simp only [sect_Split.l0, avocetref07_Split.l0]
      rw [if_pos (show (i : Int) < (b.length : Int) by omega), if_pos (show (i : Int) < (b.length : Int) by omega), if_pos (show (0 : Int) ≤ (i : Int) by omega), w64 (rd b (i : Int)) (by omega) (by omega), w64 ((i : Int) + 1) (by omega) (by omega), refReadU_f k' (by omega) b hb (by omega) _ _]
      have herr : ∀ e x y z w, e ≠ 0 → sect_Split.j1 (k + 1) b out x e y z w = some ([], e) := by
        intro e x y z w he
        simp only [sect_Split.j1]
        rw [if_neg he]
      rcases next_any b hb hL i hil with ⟨s, to_, n, nx, h, h0, h1, h2, h3, h4, h5, h6, h7, h8, h9, h10, h11, h12⟩ | ⟨e, h, he, hc⟩
      · rw [h, ← h0, if_neg (show ¬ s.f0 > 11 by omega), h3]
        simp only [Option.bind_some, List.nil_append, List.length_nil, Nat.zero_add]
        rw [if_pos trivial, if_pos trivial, w64 ((b.length : Int) - nx) (by omega) (by omega), wrap_u64, Int.emod_eq_of_lt (a := (b.length : Int) - nx) (by omega) (by omega), if_neg (by omega), w64 n (by omega) (by omega), ← h8, w64 to_ (by omega) (by omega),
          if_pos (show (0 : Int) ≤ nx by omega), if_pos (show nx ≤ to_ by omega), if_pos (show to_ ≤ (b.length : Int) by omega), ← h9, if_pos (by omega), named_f _ _ h10 (by omega)]
        simp only [Option.bind_some]
        obtain ⟨t, rfl⟩ : ∃ t : Nat, to_ = (t : Int) := ⟨to_.toNat, by omega⟩
        have hes := encS_len s (by omega)
        have hrec : one last s → ∃ r, sect_Split.j1 (k + 1) b out (t : Int) 0 last s.f0 s.f1 = some r ∧ avocetref07_Split.l0 k' b (out.map to36 ++ [⟨s.f0, s.f1⟩]) (mx last s.f0) (t : Int) = some (r.1.map to36, r.2) := by
          intro hone
          simp only [sect_Split.j1]
          rw [if_pos trivial, takes_one hone hl]
          simp only [Option.bind_some, if_true]
          rw [if_pos (by omega)]
          obtain ⟨r, g1, g2⟩ := ih (b.length - t) (by omega) k k' t (out ++ [s]) (mx last s.f0) (by omega) (by omega) (by omega) (mx_one hone hl).1 (by simp; omega)
          refine ⟨r, g1, ?_⟩
          rw [List.map_append] at g2
          exact g2
        by_cases c : s.f0 = 0
        · rw [if_pos c, if_pos c]
          obtain ⟨q, g1, g2⟩ := refName_e s.f1 h10 (by omega) k' (by omega)
          rw [g1]
          simp only [Option.bind_some]
          rw [g2]
          by_cases ce : nmE s.f1 = 0
          · rw [ce, if_pos rfl, if_pos (by rw [List.length_map]; omega)]
            exact hrec ⟨h2, h1, fun _ => ce, .inl c⟩
          · rw [if_neg ce, herr _ _ _ _ _ ce]
            exact ⟨_, rfl, rfl⟩
        · rw [if_neg c, if_neg c]
          by_cases cl : s.f0 ≤ last
          · rw [if_pos cl]
            have ht : sect_order_takes.f last s.f0 = some (false, mx last s.f0) := by
              unfold sect_order_takes.f
              rw [if_neg c, decide_eq_false (by omega)]
            simp only [sect_Split.j1]
            rw [if_pos trivial, ht]
            exact ⟨_, rfl, rfl⟩
          · rw [if_neg cl, if_pos (by rw [List.length_map]; omega)]
            exact hrec ⟨h2, h1, fun h => absurd h c, .inr (by omega)⟩
      · rw [h]
        simp only [Option.bind_some]
        rw [if_neg he, herr _ _ _ _ _ he]
        refine ⟨_, rfl, ?_⟩
        rcases hc with ⟨c1, c2⟩ | ⟨c1, n, nx, c2, c3⟩ | ⟨c1, n, nx, c2, c3, c4, c5, c6⟩
        · rw [if_pos c1, c2]
          rfl
        · rw [if_neg (by omega), c2]
          simp only
          rw [if_neg he]
          rfl
        · rw [if_neg (by omega), c2]
          simp only
          rw [if_pos trivial, w64 ((b.length : Int) - nx) (by omega) (by omega), wrap_u64, Int.emod_eq_of_lt (a := (b.length : Int) - nx) (by omega) (by omega), if_pos c3, c6]
          rfl
theorem split_same_f (b : List Int) (hb : allB b) (k : Nat) (hk : 2 * b.length + 400 ≤ k) : ∃ r, sect_Split.f k b = some r ∧ avocetref07_Split.f k b = some (r.1.map to36, r.2) := by
  unfold avocetref07_Split.f avocetref07_head.f
  rw [show ([0, 97, 115, 109, 1, 0, 0, 0] : List Int) = h8 from rfl]
  by_cases c1 : b.length ≤ 65536
  · rw [if_neg (by omega)]
    by_cases c2 : 8 ≤ b.length
    · rw [if_neg (by omega), if_pos (by omega), Option.bind_some]
      have hB : allB (b.take 8) := fun x hx => hb x (List.mem_of_mem_take hx)
      by_cases c3 : b.take 8 = h8
      · rw [split_f k b hb c1 c2 c3, if_pos ((strs_eq hB h8_B).2 c3)]
        exact split_same b hb c1 (b.length - 8) k k 8 [] 0 (by omega) (by omega) (by omega) (by omega) (by simp; omega)
      · rw [if_neg (fun h => c3 ((strs_eq hB h8_B).1 h))]
        unfold sect_Split.f
        rw [if_neg (by omega), if_neg (by omega), show ([0, 97, 115, 109, 1, 0, 0, 0] : List Int) = h8 from rfl, pre_f b hb, Option.bind_some, decide_eq_false (fun h => c3 h.2), if_neg (by decide)]
        exact ⟨_, rfl, rfl⟩
    · rw [if_pos (by omega)]
      unfold sect_Split.f
      rw [if_neg (by omega), if_pos (by omega)]
      exact ⟨_, rfl, rfl⟩
  · rw [if_pos (by omega)]
    unfold sect_Split.f
    rw [if_pos (by omega)]
    exact ⟨_, rfl, rfl⟩
set_option maxRecDepth 100000 in
/-- The document's Join, from a section on. -/
theorem refJoin_l0 (l : List S36) (hs : small (l.map to38)) (hl : l.length ≤ 100000) : ∀ (d k i : Nat) (out : List Int) (last : Int), i + d = l.length → d + 300 ≤ k → 0 ≤ last → out.length + 80000 * d ≤ 100000000000 →
    (okS last ((l.drop i).map to38) ∧ avocetref07_Join.l0 k l last out (i : Int) = some (if ((out ++ encL ((l.drop i).map to38)).length : Int) > 65536 then ([], 4) else (out ++ encL ((l.drop i).map to38), 0))) ∨ (¬ okS last ((l.drop i).map to38) ∧ avocetref07_Join.l0 k l last out (i : Int) = some ([], 1))
  | 0, k, i, out, last, hi, hk, h0, ho => by
    obtain ⟨k, rfl⟩ : ∃ m, k = m + 1 := ⟨k - 1, by omega⟩
    simp only [avocetref07_Join.l0]
    rw [if_neg (by omega), List.drop_of_length_le (by omega), List.map_nil, encL_nil, List.append_nil]
    refine .inl ⟨trivial, ?_⟩
    split <;> rfl
  | d + 1, k, i, out, last, hi, hk, h0, ho => by
    obtain ⟨k, rfl⟩ : ∃ m, k = m + 1 := ⟨k - 1, by omega⟩
    have hlt : i < l.length := by omega
    obtain ⟨hb, hn⟩ := hs (to38 l[i]) (List.mem_map.2 ⟨_, List.getElem_mem hlt, rfl⟩)
    have hu := uB_short _ hn
    obtain ⟨q, g1, g2⟩ := refName_e (to38 l[i]).f1 hb (by omega) k (by omega)
    simp only [avocetref07_Join.l0]
    rw [if_pos (by omega), if_pos (by omega), rd36 l i hlt, List.drop_eq_getElem_cons hlt, List.map_cons]
    have e0 : l[i].f0 = (to38 l[i]).f0 := rfl
    have e1 : l[i].f1 = (to38 l[i]).f1 := rfl
    rw [e0, e1]
    generalize hsx : to38 l[i] = s at *
    clear hsx e0 e1
    rw [g1]
    simp only [Option.bind_some]
    rw [g2]
    have hgo : one last s → (okS last (s :: (l.drop (i + 1)).map to38) ∧ (if out.length < 140737488355328 then ((avocetref01_U.f k (out ++ [s.f0 % 256]) (IntKind.u64.wrap (s.f1.length : Int))).bind fun t => (if t.length + s.f1.length < 140737488355328 then avocetref07_Join.l0 k l (mx last s.f0) (t ++ s.f1) (wrap64 ((i : Int) + 1)) else none)) else none) =
          some (if ((out ++ encL (s :: (l.drop (i + 1)).map to38)).length : Int) > 65536 then ([], 4) else (out ++ encL (s :: (l.drop (i + 1)).map to38), 0))) ∨
        (¬ okS last (s :: (l.drop (i + 1)).map to38) ∧ (if out.length < 140737488355328 then ((avocetref01_U.f k (out ++ [s.f0 % 256]) (IntKind.u64.wrap (s.f1.length : Int))).bind fun t => (if t.length + s.f1.length < 140737488355328 then avocetref07_Join.l0 k l (mx last s.f0) (t ++ s.f1) (wrap64 ((i : Int) + 1)) else none)) else none) = some ([], 1)) := by
      intro hone
      have ho1 := hone.1
      have ho2 := hone.2.1
      rw [if_pos (by omega), wrap_u64, Int.emod_eq_of_lt (a := (s.f1.length : Int)) (b := 18446744073709551616) (by omega) (by omega), refU_f k _ _ (by omega) (by omega) (by omega) (by simp; omega), Option.bind_some,
        if_pos (by have h_ : (out ++ [s.f0 % 256] ++ uB 9 (s.f1.length : Int)).length = out.length + 1 + (uB 9 (s.f1.length : Int)).length := (by simp; try omega); rw [h_]; omega), w64 ((i : Int) + 1) (by omega) (by omega), show (i : Int) + 1 = ((i + 1 : Nat) : Int) by omega, Int.emod_eq_of_lt (a := s.f0) (by omega) (by omega)]
      have e : out ++ [s.f0] ++ uB 9 (s.f1.length : Int) ++ s.f1 = out ++ encS s := by unfold encS; simp
      rw [e]
      have hes := encS_len s hn
      rcases refJoin_l0 l hs hl d k (i + 1) (out ++ encS s) (mx last s.f0) (by omega) (by omega) (mx_one hone h0).1 (by rw [List.length_append]; omega) with ⟨g1, g2⟩ | ⟨g1, g2⟩
      · refine .inl ⟨⟨hone, g1⟩, ?_⟩
        rw [g2, List.append_assoc, ← encL_cons]
      · exact .inr ⟨fun h => g1 h.2, g2⟩
    by_cases c1 : s.f0 < 0
    · rw [if_pos c1]
      exact .inr ⟨fun h => by have := h.1.1; omega, rfl⟩
    · rw [if_neg c1]
      by_cases c2 : s.f0 > 11
      · rw [if_pos c2]
        exact .inr ⟨fun h => by have := h.1.2.1; omega, rfl⟩
      · rw [if_neg c2]
        by_cases c : s.f0 = 0
        · rw [if_pos c]
          by_cases ce : nmE s.f1 = 0
          · rw [if_pos ce, if_neg (by omega)]
            exact hgo ⟨by omega, by omega, fun _ => ce, .inl c⟩
          · rw [if_neg ce]
            exact .inr ⟨fun h => ce (h.1.2.2.1 c), rfl⟩
        · rw [if_neg c, if_pos (show s.f0 > 0 by omega)]
          by_cases cl : s.f0 ≤ last
          · rw [if_pos cl]
            exact .inr ⟨fun h => by have := h.1.2.2.2; omega, rfl⟩
          · rw [if_neg cl]
            exact hgo ⟨by omega, by omega, fun h => absurd h c, .inr (by omega)⟩
theorem join_same_f (l : List S36) (hs : small (l.map to38)) (hl : l.length ≤ 100000) (k : Nat) (hk : l.length + 300 ≤ k) : ∃ r, sect_Join.f k (l.map to38) = some r ∧ avocetref07_Join.f k l = some r := by
  have h1 := refJoin_l0 l hs hl l.length k 0 h8 0 (by omega) hk (by omega) (by simp [h8]; omega)
  rw [List.drop_zero] at h1
  have e : avocetref07_Join.f k l = avocetref07_Join.l0 k l 0 h8 ((0 : Nat) : Int) := rfl
  rw [e]
  rcases join_f (l.map to38) hs (by rw [List.length_map]; omega) k (by rw [List.length_map]; omega) with ⟨g1, g2⟩ | ⟨g1, g2⟩ <;> rcases h1 with ⟨f1, f2⟩ | ⟨f1, f2⟩
  · exact ⟨_, g2, f2⟩
  · exact absurd g1 f1
  · exact absurd f1 g1
  · exact ⟨_, g2, f2⟩
theorem refFind_l0 (l : List S36) (id : Int) (hl : l.length ≤ 1000000) : ∀ (d k i : Nat), i + d = l.length → d < k → avocetref07_Find.l0 k l id (i : Int) = sect_Find.f ((l.drop i).map to38) id
  | 0, k, i, hi, hk => by
    obtain ⟨k, rfl⟩ : ∃ m, k = m + 1 := ⟨k - 1, by omega⟩
    simp only [avocetref07_Find.l0]
    rw [if_neg (by omega), List.drop_of_length_le (by omega)]
    rfl
  | d + 1, k, i, hi, hk => by
    obtain ⟨k, rfl⟩ : ∃ m, k = m + 1 := ⟨k - 1, by omega⟩
    have hlt : i < l.length := by omega
    simp only [avocetref07_Find.l0]
    rw [if_pos (by omega), if_pos (by omega), rd36 l i hlt, List.drop_eq_getElem_cons hlt, List.map_cons]
    unfold sect_Find.f
    by_cases h : l[i].f0 = id
    · rw [if_pos h, List.find?_cons_of_pos (by simp [sectFind_at, to38, h])]
      rfl
    · rw [if_neg h, List.find?_cons_of_neg (by simp [sectFind_at, to38, h]), w64 ((i : Int) + 1) (by omega) (by omega)]
      exact refFind_l0 l id hl d k (i + 1) (by omega) (by omega)
theorem find_same_f (l : List S36) (id : Int) (hl : l.length ≤ 1000000) (k : Nat) (hk : l.length < k) : avocetref07_Find.f k l id = sect_Find.f (l.map to38) id := by
  have := refFind_l0 l id hl l.length k 0 (by omega) hk
  simpa [avocetref07_Find.f] using this
theorem custom_same_f (s : ByteArray) (hs : s.size ≤ 100000) (l : List Int) (k : Nat) (hk : 200 ≤ k) (hl : l.length ≤ 100000) : ∃ r, sect_Custom.f k s l = some r ∧ avocetref07_Custom.f k s l = some r := by
  obtain ⟨r, h1, h2⟩ := lay_same [] (by simp) s hs k hk
  have hr : r.1.length ≤ 100 := by
    unfold utf_Lay.f at h1
    rw [if_pos (by omega), may_eq (bytes_byte s), bytesOf_length s] at h1
    simp only [Option.bind_some] at h1
    by_cases c : (s.size : Int) > 64
    · rw [if_pos c, if_neg (by decide)] at h1
      obtain rfl := Option.some.inj h1
      simp
    · rw [if_neg c] at h1
      cases hv : valid8 (bytesOf s) with
      | false =>
        rw [hv] at h1
        obtain rfl := Option.some.inj h1
        simp
      | true =>
        rw [hv] at h1
        simp only [if_true] at h1
        rw [wrap_u64, Int.emod_eq_of_lt (a := (s.size : Int)) (by omega) (by omega), U_f k [] _ (by omega) (by omega) (by omega) (by simp)] at h1
        simp only [Option.bind_some] at h1
        have hu := uB_len 9 (s.size : Int)
        rw [if_pos (by simp; omega)] at h1
        obtain rfl := Option.some.inj h1
        have := bytesOf_length s
        simp
        omega
  unfold sect_Custom.f avocetref07_Custom.f
  rw [h1, h2]
  simp only [Option.bind_some]
  by_cases c : r.2 = 0
  · rw [if_pos c, if_pos (by omega)]
    exact ⟨_, rfl, rfl⟩
  · rw [if_neg c]
    exact ⟨_, rfl, rfl⟩
end Go.Proofs.YtoeknjmdlmhajaaDoor.Pure
