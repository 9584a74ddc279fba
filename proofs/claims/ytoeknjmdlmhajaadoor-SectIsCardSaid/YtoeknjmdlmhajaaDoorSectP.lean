/- Sections and their bytes, in plain words: what sect.Join lays of any sections, what sect.Split tells of these bytes, of one byte less, and of any bytes. -/
import Derived.Test.YtoeknjmdlmhajaaDoorUtfT
import Derived.Test.YtoeknjmdlmhajaaDoorG1
import Derived.Test.YtoeknjmdlmhajaaDoorG2
import Derived.Test.YtoeknjmdlmhajaaDoorG3
import Derived.Test.YtoeknjmdlmhajaaDoorG4
namespace Go.Proofs.YtoeknjmdlmhajaaDoor.Pure
open Go.RowKit Go.Proofs.YtoeknjmdlmhajaaDoor.G Go.Proofs.YtoeknjmdlmhajaaDoorW.PrintWords Go.Proofs.YtoeknjmdlmhajaaDoorW.PrintLast Go.Proofs.YtoeknjmdlmhajaaDoorW.PrintMore Go.Proofs.YtoeknjmdlmhajaaDoor.LebM Go.Proofs.YtoeknjmdlmhajaaDoor.LebV
set_option linter.unusedVariables false
set_option linter.unusedSimpArgs false
def to38 (x : S36) : S38 := ⟨x.f0, x.f1⟩
def to36 (x : S38) : S36 := ⟨x.f0, x.f1⟩
theorem to_to (l : List S36) : (l.map to38).map to36 = l := by
  rw [List.map_map]
  exact List.map_id'' (fun _ => rfl) l
theorem rd36 (l : List S36) (i : Nat) (h : i < l.length) : rd_T36 l (i : Int) = l[i] := by
  unfold rd_T36
  rw [Int.toNat_natCast, List.getD_eq_getElem?_getD, List.getElem?_eq_getElem h]
  rfl
theorem rd38 (l : List S38) (i : Nat) (h : i < l.length) : rd_T38 l (i : Int) = l[i] := by
  unfold rd_T38
  rw [Int.toNat_natCast, List.getD_eq_getElem?_getD, List.getElem?_eq_getElem h]
  rfl
theorem ours_l0 (l : List S36) (hl : l.length ≤ 1000000) : ∀ (d k i : Nat) (out : List S38), i + d = l.length → d < k → out.length + d ≤ 4000000 → avocetlaw07_ours.l0 k l out (i : Int) = some (out ++ (l.drop i).map to38)
  | 0, k, i, out, hi, hk, ho => by
    obtain ⟨k, rfl⟩ : ∃ m, k = m + 1 := ⟨k - 1, by omega⟩
    simp only [avocetlaw07_ours.l0]
    rw [if_neg (by omega), List.drop_of_length_le (by omega)]
    simp
  | d + 1, k, i, out, hi, hk, ho => by
    obtain ⟨k, rfl⟩ : ∃ m, k = m + 1 := ⟨k - 1, by omega⟩
    simp only [avocetlaw07_ours.l0]
    have hlt : i < l.length := by omega
    rw [if_pos (by omega), if_pos (by omega), if_pos (by omega), w64 ((i : Int) + 1) (by omega) (by omega), show (i : Int) + 1 = ((i + 1 : Nat) : Int) by omega, rd36 l i hlt,
      ours_l0 l hl d k (i + 1) _ (by omega) (by omega) (by simp; omega), List.drop_eq_getElem_cons hlt, List.map_cons, List.append_assoc]
    rfl
theorem ours_f (l : List S36) (hl : l.length ≤ 1000000) (k : Nat) (hk : l.length < k) : avocetlaw07_ours.f k l = some (l.map to38) := by
  have := ours_l0 l hl l.length k 0 [] (by omega) hk (by simp; omega)
  simpa [avocetlaw07_ours.f] using this
theorem theirs_l0 (l : List S38) (hl : l.length ≤ 1000000) : ∀ (d k i : Nat) (out : List S36), i + d = l.length → d < k → out.length + d ≤ 4000000 → avocetlaw07_theirs.l0 k l out (i : Int) = some (out ++ (l.drop i).map to36)
  | 0, k, i, out, hi, hk, ho => by
    obtain ⟨k, rfl⟩ : ∃ m, k = m + 1 := ⟨k - 1, by omega⟩
    simp only [avocetlaw07_theirs.l0]
    rw [if_neg (by omega), List.drop_of_length_le (by omega)]
    simp
  | d + 1, k, i, out, hi, hk, ho => by
    obtain ⟨k, rfl⟩ : ∃ m, k = m + 1 := ⟨k - 1, by omega⟩
    simp only [avocetlaw07_theirs.l0]
    have hlt : i < l.length := by omega
    rw [if_pos (by omega), if_pos (by omega), if_pos (by omega), w64 ((i : Int) + 1) (by omega) (by omega), show (i : Int) + 1 = ((i + 1 : Nat) : Int) by omega, rd38 l i hlt,
      theirs_l0 l hl d k (i + 1) _ (by omega) (by omega) (by simp; omega), List.drop_eq_getElem_cons hlt, List.map_cons, List.append_assoc]
    rfl
theorem theirs_f (l : List S38) (hl : l.length ≤ 1000000) (k : Nat) (hk : l.length < k) : avocetlaw07_theirs.f k l = some (l.map to36) := by
  have := theirs_l0 l hl l.length k 0 [] (by omega) hk (by simp; omega)
  simpa [avocetlaw07_theirs.f] using this
theorem same_l0 (l : List S36) (hl : l.length ≤ 1000000) : ∀ (d k i : Nat), i + d = l.length → d < k → avocetref07_Same.l0 k l l (i : Int) = some true
  | 0, k, i, hi, hk => by
    obtain ⟨k, rfl⟩ : ∃ m, k = m + 1 := ⟨k - 1, by omega⟩
    simp only [avocetref07_Same.l0]
    rw [if_neg (by omega)]
  | d + 1, k, i, hi, hk => by
    obtain ⟨k, rfl⟩ : ∃ m, k = m + 1 := ⟨k - 1, by omega⟩
    simp only [avocetref07_Same.l0]
    rw [if_pos (by omega), if_pos (by omega), if_pos (by omega), if_true, if_true, w64 ((i : Int) + 1) (by omega) (by omega)]
    exact same_l0 l hl d k (i + 1) (by omega) (by omega)
theorem same_f (l : List S36) (hl : l.length ≤ 1000000) (k : Nat) (hk : l.length < k) : avocetref07_Same.f k l l = some true := by
  unfold avocetref07_Same.f
  rw [if_pos rfl]
  exact same_l0 l hl l.length k 0 (by omega) hk
theorem few_l0 (l : List S36) (hl : l.length ≤ 1000000) : ∀ (d k i : Nat), i + d = l.length → d < k → ∃ b, avocetref07_Few.l0 k l (i : Int) = some b ∧ (b = true → ∀ x ∈ l.drop i, x.f1.length ≤ 70000)
  | 0, k, i, hi, hk => by
    obtain ⟨k, rfl⟩ : ∃ m, k = m + 1 := ⟨k - 1, by omega⟩
    simp only [avocetref07_Few.l0]
    rw [if_neg (by omega), List.drop_of_length_le (by omega)]
    exact ⟨_, rfl, fun _ x hx => by cases hx⟩
  | d + 1, k, i, hi, hk => by
    obtain ⟨k, rfl⟩ : ∃ m, k = m + 1 := ⟨k - 1, by omega⟩
    simp only [avocetref07_Few.l0]
    have hlt : i < l.length := by omega
    rw [if_pos (by omega), if_pos (by omega), rd36 l i hlt]
    by_cases h : (l[i].f1.length : Int) > 70000
    · rw [if_pos h]
      exact ⟨_, rfl, fun h => by cases h⟩
    · rw [if_neg h, w64 ((i : Int) + 1) (by omega) (by omega)]
      obtain ⟨b, h1, h2⟩ := few_l0 l hl d k (i + 1) (by omega) (by omega)
      refine ⟨b, h1, fun hb x hx => ?_⟩
      rw [List.drop_eq_getElem_cons hlt] at hx
      rcases List.mem_cons.1 hx with rfl | hx
      · omega
      · exact h2 hb x hx
theorem few_f (l : List S36) (hl : l.length ≤ maxLen) (k : Nat) (hk : 100 ≤ k) : ∃ b, avocetref07_Few.f k l = some b ∧ (b = true → l.length ≤ 30 ∧ ∀ x ∈ l, x.f1.length ≤ 70000) := by
  unfold avocetref07_Few.f
  by_cases h : (l.length : Int) > 30
  · rw [if_pos h]
    exact ⟨_, rfl, fun h => by cases h⟩
  · rw [if_neg h]
    obtain ⟨b, h1, h2⟩ := few_l0 l (by omega) l.length k 0 (by omega) (by omega)
    exact ⟨b, h1, fun hb => ⟨by omega, by simpa using h2 hb⟩⟩
/-- The error of the name that bytes begin with. -/
def nmE (l : List Int) : Int := match utf_Name.f l 0 with | some r => r.2.2 | none => 0
theorem named_f (id : Int) (l : List Int) (hb : allB l) (hL : l.length ≤ 100000) : sect_named.f id l = some (if id = 0 then nmE l else 0) := by
  unfold sect_named.f nmE
  have hb' : l.all u8byte = true := List.all_eq_true.2 (fun x hx => by have := hb x hx; simp only [u8byte, decide_eq_true_eq]; exact this)
  obtain ⟨r, h1⟩ := name_tot l hb' hL 0
  by_cases h : id = 0
  · rw [if_pos h, if_pos h, h1]; rfl
  · rw [if_neg h, if_neg h]
def one (last : Int) (s : S38) : Prop := 0 ≤ s.f0 ∧ s.f0 ≤ 11 ∧ (s.f0 = 0 → nmE s.f1 = 0) ∧ (s.f0 = 0 ∨ last < s.f0)
def okS : Int → List S38 → Prop
  | _, [] => True
  | last, s :: t => one last s ∧ okS (mx last s.f0) t
def encS (s : S38) : List Int := s.f0 :: (uB 9 (s.f1.length : Int) ++ s.f1)
def encL (l : List S38) : List Int := l.flatMap encS
theorem encL_nil : encL [] = [] := rfl
theorem encL_cons (s : S38) (t : List S38) : encL (s :: t) = encS s ++ encL t := by simp [encL]
theorem encL_append (s t : List S38) : encL (s ++ t) = encL s ++ encL t := by simp [encL]
def small (l : List S38) : Prop := ∀ s ∈ l, allB s.f1 ∧ s.f1.length ≤ 70000
theorem small_cons {s : S38} {t : List S38} : small (s :: t) ↔ (allB s.f1 ∧ s.f1.length ≤ 70000) ∧ small t := by simp [small]
theorem uB_short (n : Nat) (h : n ≤ 70000) : (uB 9 (n : Int)).length ≤ 3 := by
  rw [uB_length 9 (n : Int) (by omega) (by omega) (by omega), Int.toNat_natCast]
  have := bitLen_le n 21 (by omega)
  omega
theorem uB_pos (n : Nat) (h : n ≤ 70000) : 1 ≤ (uB 9 (n : Int)).length := (uB_grp 9 (n : Int) (by omega) (by omega)).pos
theorem encS_len (s : S38) (h : s.f1.length ≤ 70000) : s.f1.length + 2 ≤ (encS s).length ∧ (encS s).length ≤ s.f1.length + 4 := by
  have h1 := uB_short _ h
  have h2 := uB_pos _ h
  unfold encS
  simp only [List.length_cons, List.length_append]
  omega
theorem encS_B (s : S38) (h0 : 0 ≤ s.f0) (h1 : s.f0 ≤ 11) (hb : allB s.f1) (hn : s.f1.length ≤ 70000) : allB (encS s) := by
  intro x hx
  rcases List.mem_cons.1 hx with rfl | hx
  · omega
  · rcases List.mem_append.1 hx with hx | hx
    · exact (uB_grp 9 (s.f1.length : Int) (by omega) (by omega)).bytes x hx
    · exact hb x hx
theorem okS_one {last : Int} {l : List S38} (h : okS last l) : ∀ s ∈ l, 0 ≤ s.f0 ∧ s.f0 ≤ 11 := by
  induction l generalizing last with
  | nil => exact fun s hs => by cases hs
  | cons a t ih =>
    intro s hs
    rcases List.mem_cons.1 hs with rfl | hs
    · exact ⟨h.1.1, h.1.2.1⟩
    · exact ih h.2 s hs
theorem encL_B {l : List S38} {last : Int} (h : okS last l) (hs : small l) : allB (encL l) := by
  intro x hx
  obtain ⟨s, h1, h2⟩ := List.mem_flatMap.1 hx
  have := okS_one h s h1
  exact encS_B s this.1 this.2 (hs s h1).1 (hs s h1).2 x h2
theorem allB_append {a b : List Int} (ha : allB a) (hb : allB b) : allB (a ++ b) := fun x hx => (List.mem_append.1 hx).elim (ha x) (hb x)
theorem rd_mid (pre t : List Int) (x : Int) : rd (pre ++ x :: t) (pre.length : Int) = x := by
  unfold rd
  rw [Int.toNat_natCast, List.getD_eq_getElem?_getD]
  simp
theorem mx_one {last : Int} {s : S38} (h : one last s) (h0 : 0 ≤ last) : 0 ≤ mx last s.f0 ∧ (s.f0 = 0 → mx last s.f0 = last) := by
  have := h.1
  unfold mx
  split <;> omega
/-- A section that stands somewhere is told. -/
theorem next_enc (pre rest : List Int) (s : S38) (h0 : 0 ≤ s.f0) (h1 : s.f0 ≤ 11) (hb : allB s.f1) (hn : s.f1.length ≤ 70000) (hp : allB pre) (hr : allB rest) (hL : (pre ++ (encS s ++ rest)).length ≤ 100000000) :
    sect_next.f (pre ++ (encS s ++ rest)) (pre.length : Int) = some (s.f0, s.f1, (pre.length : Int) + (encS s).length, 0) := by
  have hB : allB (pre ++ (encS s ++ rest)) := allB_append hp (allB_append (encS_B s h0 h1 hb hn) hr)
  have hl := encS_len s hn
  have hu := uB_short _ hn
  have hg := uB_grp 9 (s.f1.length : Int) (by omega) (by omega)
  have hv := uB_val 9 (s.f1.length : Int) (by omega) (by omega)
  have hlen : (pre ++ (encS s ++ rest)).length = pre.length + (encS s).length + rest.length := by simp; omega
  have hel : (encS s).length = 1 + (uB 9 (s.f1.length : Int)).length + s.f1.length := by unfold encS; simp; omega
  have hrd : rd (pre ++ (encS s ++ rest)) (pre.length : Int) = s.f0 := rd_mid pre _ s.f0
  have hru : rU (pre ++ (encS s ++ rest)) ((pre.length : Int) + 1) 32 = ((s.f1.length : Int), (pre.length : Int) + 1 + (uB 9 (s.f1.length : Int)).length, 0) := by
    have := rU_at (pre ++ [s.f0]) (uB 9 (s.f1.length : Int)) (s.f1 ++ rest) hg 32 (by omega) (by omega) (by omega) (by rw [hv]; omega)
    rw [hv] at this
    have e : (pre ++ [s.f0]) ++ (uB 9 (s.f1.length : Int) ++ (s.f1 ++ rest)) = pre ++ (encS s ++ rest) := by unfold encS; simp
    rw [e] at this
    simpa using this
  have hcut : (((pre ++ (encS s ++ rest)).take ((pre.length : Int) + 1 + (uB 9 (s.f1.length : Int)).length + (s.f1.length : Int)).toNat).drop ((pre.length : Int) + 1 + (uB 9 (s.f1.length : Int)).length).toNat) = s.f1 := by
    rw [show ((pre.length : Int) + 1 + (uB 9 (s.f1.length : Int)).length + (s.f1.length : Int)).toNat = (pre ++ encS s).length by rw [List.length_append, hel]; omega,
      show ((pre.length : Int) + 1 + (uB 9 (s.f1.length : Int)).length).toNat = (pre ++ (s.f0 :: uB 9 (s.f1.length : Int))).length by simp; omega,
      ← List.append_assoc, List.take_left, show pre ++ encS s = (pre ++ (s.f0 :: uB 9 (s.f1.length : Int))) ++ s.f1 by unfold encS; simp, List.drop_left]
  unfold sect_next.f
  rw [if_pos (by omega), if_pos (by omega), hrd, w64 s.f0 (by omega) (by omega), if_neg (by omega), w64 ((pre.length : Int) + 1) (by omega) (by omega), ReadU_f _ hB _ _ (by omega), hru]
  simp only [Option.bind_some]
  rw [if_pos trivial, hlen, w64 _ (by omega) (by omega), wrap_u64, Int.emod_eq_of_lt (by omega) (by omega), if_neg (by omega), w64 (s.f1.length : Int) (by omega) (by omega), w64 ((pre.length : Int) + 1 + (uB 9 (s.f1.length : Int)).length + (s.f1.length : Int)) (by omega) (by omega),
    if_pos (by omega), if_pos (by omega), if_pos (by omega), hcut]
  unfold bytes_Clone.f
  rw [if_pos (by omega)]
  simp only [Option.bind_some]
  congr 4
  omega
/-- .. a byte less: it is too short. -/
theorem next_less (pre : List Int) (s : S38) (h0 : 0 ≤ s.f0) (h1 : s.f0 ≤ 11) (hb : allB s.f1) (hn : s.f1.length ≤ 70000) (hp : allB pre) (hL : (pre ++ encS s).length ≤ 100000000) :
    sect_next.f (pre ++ (encS s).dropLast) (pre.length : Int) = some (0, [], 0, 2) := by
  have hl := encS_len s hn
  have hu := uB_short _ hn
  have hg := uB_grp 9 (s.f1.length : Int) (by omega) (by omega)
  have hv := uB_val 9 (s.f1.length : Int) (by omega) (by omega)
  have hB : allB (pre ++ (encS s).dropLast) := allB_append hp (fun x hx => encS_B s h0 h1 hb hn x (List.dropLast_subset _ hx))
  have hel : (encS s).length = 1 + (uB 9 (s.f1.length : Int)).length + s.f1.length := by unfold encS; simp; omega
  have hlen : (pre ++ (encS s).dropLast).length = pre.length + ((encS s).length - 1) := by simp
  rw [List.length_append] at hL
  have hne : uB 9 (s.f1.length : Int) ++ s.f1 ≠ [] := by
    intro h
    have h2 := (List.append_eq_nil_iff.1 h).1
    have := hg.pos
    rw [h2] at this
    simp at this
  have hrd : rd (pre ++ (encS s).dropLast) (pre.length : Int) = s.f0 := by
    unfold encS
    rw [List.dropLast_cons_of_ne_nil hne]
    exact rd_mid pre _ s.f0
  have hlt : (pre.length : Int) < ((pre ++ (encS s).dropLast).length : Int) := by rw [hlen]; omega
  unfold sect_next.f
  rw [if_pos (by omega), if_pos hlt, hrd, w64 s.f0 (by omega) (by omega), if_neg (by omega), w64 ((pre.length : Int) + 1) (by omega) (by omega), ReadU_f _ hB _ _ (by rw [hlen]; omega)]
  by_cases hd : s.f1 = []
  · have e : (encS s).dropLast = [s.f0] := by
      unfold encS
      rw [hd]
      rfl
    have hru : rU (pre ++ (encS s).dropLast) ((pre.length : Int) + 1) 32 = (0, 0, 2) := by
      rw [e]
      unfold rU
      rw [if_pos (by simp; omega), List.drop_of_length_le (by simp)]
      rfl
    rw [hru]
    rfl
  · have hd' : 1 ≤ s.f1.length := by cases h : s.f1 with | nil => exact absurd h hd | cons a t => simp
    have e : (encS s).dropLast = s.f0 :: (uB 9 (s.f1.length : Int) ++ s.f1.dropLast) := by
      unfold encS
      rw [List.dropLast_cons_of_ne_nil hne, List.dropLast_append_of_ne_nil hd]
    have hru : rU (pre ++ (encS s).dropLast) ((pre.length : Int) + 1) 32 = ((s.f1.length : Int), (pre.length : Int) + 1 + (uB 9 (s.f1.length : Int)).length, 0) := by
      have := rU_at (pre ++ [s.f0]) (uB 9 (s.f1.length : Int)) s.f1.dropLast hg 32 (by omega) (by omega) (by omega) (by rw [hv]; omega)
      rw [hv] at this
      rw [e]
      have e2 : (pre ++ [s.f0]) ++ (uB 9 (s.f1.length : Int) ++ s.f1.dropLast) = pre ++ (s.f0 :: (uB 9 (s.f1.length : Int) ++ s.f1.dropLast)) := by simp
      rw [e2] at this
      simpa using this
    rw [hru]
    simp only [Option.bind_some]
    rw [if_pos trivial, hlen, w64 _ (by omega) (by omega), wrap_u64, Int.emod_eq_of_lt (by omega) (by omega), if_pos (by omega)]
theorem split_nil (k : Nat) (b : List Int) (out : List S38) (i last : Int) (h : ¬ i < (b.length : Int)) : sect_Split.l0 (k + 1) b out i last = some (out, 0) := by
  simp only [sect_Split.l0]
  rw [if_neg h]
theorem takes_one {last : Int} {s : S38} (h : one last s) (h0 : 0 ≤ last) : sect_order_takes.f last s.f0 = some (true, mx last s.f0) := by
  unfold sect_order_takes.f
  by_cases h1 : s.f0 = 0
  · rw [if_pos h1, (mx_one h h0).2 h1]
  · rw [if_neg h1, decide_eq_true (by have := h.2.2.2; omega)]
theorem split_step (k : Nat) (pre rest : List Int) (s : S38) (out : List S38) (last : Int) (h : one last s) (hl : 0 ≤ last) (hb : allB s.f1) (hn : s.f1.length ≤ 70000) (hp : allB pre) (hr : allB rest) (hL : (pre ++ (encS s ++ rest)).length ≤ 100000000) (ho : out.length < 1000000000) :
    sect_Split.l0 (k + 2) (pre ++ (encS s ++ rest)) out (pre.length : Int) last = sect_Split.l0 k ((pre ++ encS s) ++ rest) (out ++ [s]) ((pre ++ encS s).length : Int) (mx last s.f0) := by
  have hl2 := encS_len s hn
  rw [show k + 2 = (k + 1) + 1 from rfl]
  simp only [sect_Split.l0]
  rw [if_pos (by simp; omega), next_enc pre rest s h.1 h.2.1 hb hn hp hr hL, Option.bind_some]
  simp only
  rw [if_pos trivial, named_f _ _ hb (by omega), Option.bind_some]
  have hz : (if s.f0 = 0 then nmE s.f1 else 0) = 0 := by
    by_cases h1 : s.f0 = 0
    · rw [if_pos h1, h.2.2.1 h1]
    · rw [if_neg h1]
  rw [hz]
  simp only [sect_Split.j1]
  rw [if_pos trivial, takes_one h hl, Option.bind_some]
  simp only [if_true]
  rw [if_pos (by omega), List.append_assoc, List.length_append]
  congr 1
/-- Sections' bytes are told as they were. -/
theorem split_back : ∀ (l : List S38) (k : Nat) (pre : List Int) (out : List S38) (last : Int), okS last l → small l → 0 ≤ last → allB pre → (pre ++ encL l).length ≤ 100000000 → out.length + l.length < 1000000000 → 2 * l.length < k →
    sect_Split.l0 k (pre ++ encL l) out (pre.length : Int) last = some (out ++ l, 0)
  | [], k, pre, out, last, _, _, _, _, _, _, hk => by
    obtain ⟨k, rfl⟩ : ∃ m, k = m + 1 := ⟨k - 1, by omega⟩
    rw [split_nil _ _ _ _ _ (by simp [encL])]
    simp
  | s :: t, k, pre, out, last, h, hs, hl, hp, hL, ho, hk => by
    obtain ⟨hs1, hs2⟩ := small_cons.1 hs
    simp only [List.length_cons] at ho hk
    obtain ⟨k, rfl⟩ : ∃ m, k = m + 2 := ⟨k - 2, by omega⟩
    rw [encL_cons] at hL ⊢
    rw [split_step k pre (encL t) s out last h.1 hl hs1.1 hs1.2 hp (encL_B h.2 hs2) hL (by omega),
      split_back t k (pre ++ encS s) (out ++ [s]) (mx last s.f0) h.2 hs2 (mx_one h.1 hl).1 (allB_append hp (encS_B s h.1.1 h.1.2.1 hs1.1 hs1.2)) (by rw [List.append_assoc]; exact hL) (by simp; omega) (by omega)]
    simp
/-- .. a byte less, of the last one: too short. -/
theorem split_less : ∀ (l : List S38) (k : Nat) (pre : List Int) (out : List S38) (last : Int), l ≠ [] → okS last l → small l → 0 ≤ last → allB pre → (pre ++ encL l).length ≤ 100000000 → out.length + l.length < 1000000000 → 2 * l.length < k →
    sect_Split.l0 k (pre ++ (encL l).dropLast) out (pre.length : Int) last = some ([], 2)
  | [], k, pre, out, last, hne, _, _, _, _, _, _, hk => absurd rfl hne
  | [s], k, pre, out, last, _, h, hs, hl, hp, hL, ho, hk => by
    obtain ⟨hs1, hs2⟩ := small_cons.1 hs
    have hl2 := encS_len s hs1.2
    simp only [List.length_cons, List.length_nil] at ho hk
    obtain ⟨k, rfl⟩ : ∃ m, k = m + 2 := ⟨k - 2, by omega⟩
    have e : encL [s] = encS s := by simp [encL]
    rw [e] at hL ⊢
    rw [show k + 2 = (k + 1) + 1 from rfl]
    simp only [sect_Split.l0]
    rw [if_pos (by simp; omega), next_less pre s h.1.1 h.1.2.1 hs1.1 hs1.2 hp hL, Option.bind_some]
    simp only [sect_Split.j1]
    rfl
  | s :: u :: t, k, pre, out, last, _, h, hs, hl, hp, hL, ho, hk => by
    obtain ⟨hs1, hs2⟩ := small_cons.1 hs
    simp only [List.length_cons] at ho hk
    obtain ⟨k, rfl⟩ : ∃ m, k = m + 2 := ⟨k - 2, by omega⟩
    have hne : encL (u :: t) ≠ [] := by rw [encL_cons]; unfold encS; simp
    rw [encL_cons] at hL ⊢
    rw [List.dropLast_append_of_ne_nil hne, split_step k pre _ s out last h.1 hl hs1.1 hs1.2 hp (fun x hx => encL_B h.2 hs2 x (List.dropLast_subset _ hx)) (by simp at hL ⊢; omega) (by omega)]
    exact split_less (u :: t) k (pre ++ encS s) (out ++ [s]) (mx last s.f0) (by simp) h.2 hs2 (mx_one h.1 hl).1 (allB_append hp (encS_B s h.1.1 h.1.2.1 hs1.1 hs1.2)) (by rw [List.append_assoc]; exact hL) (by simp; omega) (by simp; omega)
/-- What Join lays of any sections. -/
theorem join_l0 (l : List S38) (hs : small l) (hl : l.length ≤ 100000) : ∀ (d k i : Nat) (out : List Int) (last : Int), i + d = l.length → d + 20 ≤ k → 0 ≤ last → out.length + 80000 * d ≤ 100000000000 →
    (okS last (l.drop i) ∧ sect_Join.l0 k l out (l.length : Int) (i : Int) last = some (if ((out ++ encL (l.drop i)).length : Int) > 65536 then ([], 4) else (out ++ encL (l.drop i), 0))) ∨ (¬ okS last (l.drop i) ∧ sect_Join.l0 k l out (l.length : Int) (i : Int) last = some ([], 1))
  | 0, k, i, out, last, hi, hk, h0, ho => by
    obtain ⟨k, rfl⟩ : ∃ m, k = m + 1 := ⟨k - 1, by omega⟩
    simp only [sect_Join.l0]
    rw [if_neg (by omega), List.drop_of_length_le (by omega), encL_nil, List.append_nil]
    refine .inl ⟨trivial, ?_⟩
    split <;> rfl
  | d + 1, k, i, out, last, hi, hk, h0, ho => by
    obtain ⟨k, rfl⟩ : ∃ m, k = m + 1 := ⟨k - 1, by omega⟩
    have hlt : i < l.length := by omega
    obtain ⟨hb, hn⟩ := hs l[i] (List.getElem_mem hlt)
    have hu := uB_short _ hn
    simp only [sect_Join.l0]
    rw [if_pos (by omega), if_pos (by omega), if_pos (by omega), rd38 l i hlt, List.drop_eq_getElem_cons hlt]
    generalize hsx : l[i] = s at *
    clear hsx
    by_cases c1 : s.f0 < 0
    · rw [if_pos c1]
      exact .inr ⟨fun h => by have := h.1.1; omega, rfl⟩
    · rw [if_neg c1]
      by_cases c2 : s.f0 > 11
      · rw [if_pos c2]
        exact .inr ⟨fun h => by have := h.1.2.1; omega, rfl⟩
      · rw [if_neg c2, named_f _ _ hb (by omega), Option.bind_some]
        by_cases c3 : (if s.f0 = 0 then nmE s.f1 else 0) = 0
        · rw [if_pos c3]
          have h3 : s.f0 = 0 → nmE s.f1 = 0 := fun h => by rw [if_pos h] at c3; exact c3
          have ht : sect_order_takes.f last s.f0 = some (decide (s.f0 = 0 ∨ last < s.f0), mx last s.f0) := by
            unfold sect_order_takes.f
            by_cases h1 : s.f0 = 0
            · rw [if_pos h1, decide_eq_true (.inl h1)]
              congr 2
              unfold mx
              split <;> omega
            · rw [if_neg h1]
              congr 2
              by_cases h2 : s.f0 > last
              · rw [decide_eq_true h2, decide_eq_true (.inr h2)]
              · rw [decide_eq_false h2, decide_eq_false (by omega)]
          rw [ht, Option.bind_some]
          by_cases c4 : s.f0 = 0 ∨ last < s.f0
          · have hone : one last s := ⟨by omega, by omega, h3, c4⟩
            rw [decide_eq_true c4]
            simp only [if_true]
            rw [if_pos (by omega), wrap_u64, Int.emod_eq_of_lt (a := (s.f1.length : Int)) (b := 18446744073709551616) (by omega) (by omega), U_f k _ _ (by omega) (by omega) (by omega) (by simp; omega), Option.bind_some,
              if_pos (by have h_ : (out ++ [s.f0 % 256] ++ uB 9 (s.f1.length : Int)).length = out.length + 1 + (uB 9 (s.f1.length : Int)).length := (by simp; try omega); rw [h_]; omega), w64 ((i : Int) + 1) (by omega) (by omega), show (i : Int) + 1 = ((i + 1 : Nat) : Int) by omega, Int.emod_eq_of_lt (a := s.f0) (by omega) (by omega)]
            have e : out ++ [s.f0] ++ uB 9 (s.f1.length : Int) ++ s.f1 = out ++ encS s := by unfold encS; simp
            rw [e]
            have hes := encS_len s hn
            rcases join_l0 l hs hl d k (i + 1) (out ++ encS s) (mx last s.f0) (by omega) (by omega) (mx_one hone h0).1 (by rw [List.length_append]; omega) with ⟨g1, g2⟩ | ⟨g1, g2⟩
            · refine .inl ⟨⟨hone, g1⟩, ?_⟩
              rw [g2, List.append_assoc, ← encL_cons]
            · exact .inr ⟨fun h => g1 h.2, g2⟩
          · rw [decide_eq_false c4]
            exact .inr ⟨fun h => c4 h.1.2.2.2, rfl⟩
        · rw [if_neg c3]
          refine .inr ⟨fun h => ?_, rfl⟩
          by_cases h1 : s.f0 = 0
          · rw [if_pos h1] at c3
            exact c3 (h.1.2.2.1 h1)
          · rw [if_neg h1] at c3
            exact c3 rfl
def h8 : List Int := [0, 97, 115, 109, 1, 0, 0, 0]
theorem h8_B : allB h8 := by
  intro x hx
  simp [h8] at hx
  omega
theorem join_f (l : List S38) (hs : small l) (hl : l.length ≤ 100000) (k : Nat) (hk : l.length + 20 ≤ k) :
    (okS 0 l ∧ sect_Join.f k l = some (if ((h8 ++ encL l).length : Int) > 65536 then ([], 4) else (h8 ++ encL l, 0))) ∨ (¬ okS 0 l ∧ sect_Join.f k l = some ([], 1)) := by
  have := join_l0 l hs hl l.length k 0 h8 0 (by omega) hk (by omega) (by simp [h8]; omega)
  simpa [sect_Join.f, h8] using this
theorem pre_f (l : List Int) (hb : allB l) : bytes_HasPrefix.f l h8 = some (decide (8 ≤ l.length ∧ l.take 8 = h8)) := by
  unfold bytes_HasPrefix.f
  have e : h8.length = 8 := rfl
  rw [e]
  congr 1
  have h2 : ((strOfNums (l.take 8)).toList == (strOfNums h8).toList) = decide (l.take 8 = h8) := by
    by_cases h : l.take 8 = h8
    · rw [h]; simp
    · rw [decide_eq_false h]
      exact beq_eq_false_iff_ne.mpr (fun h' => h ((strs_eq (fun x hx => hb x (List.mem_of_mem_take hx)) h8_B).1 h'))
  rw [h2]
  by_cases a : 8 ≤ l.length <;> by_cases b : l.take 8 = h8 <;> simp [a, b]
theorem split_f (k : Nat) (l : List Int) (hb : allB l) (h : l.length ≤ 65536) (h1 : 8 ≤ l.length) (h2 : l.take 8 = h8) : sect_Split.f k l = sect_Split.l0 k l [] 8 0 := by
  unfold sect_Split.f
  rw [if_neg (by omega), if_neg (by omega), show ([0, 97, 115, 109, 1, 0, 0, 0] : List Int) = h8 from rfl, pre_f l hb, Option.bind_some, decide_eq_true ⟨h1, h2⟩, if_pos rfl]
theorem split_back_f (l : List S38) (k : Nat) (h : okS 0 l) (hs : small l) (hl : (h8 ++ encL l).length ≤ 65536) (hk : 2 * l.length < k) (hn : l.length ≤ 100000) : sect_Split.f k (h8 ++ encL l) = some (l, 0) := by
  rw [split_f k _ (allB_append h8_B (encL_B h hs)) hl (by simp [h8]) (List.take_left' rfl)]
  have := split_back l k h8 [] 0 h hs (by omega) h8_B (by omega) (by simp; omega) hk
  rw [show (h8.length : Int) = 8 from rfl, List.nil_append] at this
  exact this
theorem encL_count {l : List S38} {last : Int} (h : okS last l) (hs : small l) : 2 * l.length ≤ (encL l).length := by
  induction l generalizing last with
  | nil => simp
  | cons s t ih =>
    obtain ⟨hs1, hs2⟩ := small_cons.1 hs
    have := ih h.2 hs2
    have := encS_len s hs1.2
    rw [encL_cons, List.length_append, List.length_cons]
    omega
theorem split_less_f (l : List S38) (k : Nat) (h : okS 0 l) (hs : small l) (hl : (h8 ++ encL l).length ≤ 65536) (hk : 2 * l.length < k) (hn : l.length ≤ 100000) : ∃ r, sect_Split.f k ((h8 ++ encL l).take ((h8 ++ encL l).length - 1)) = some (r, 2) := by
  by_cases hne : l = []
  · subst hne
    refine ⟨[], ?_⟩
    unfold sect_Split.f
    rw [if_neg (by simp [encL, h8]), if_pos (by simp [encL, h8])]
  · have he : encL l ≠ [] := by
      cases l with
      | nil => exact absurd rfl hne
      | cons s t => rw [encL_cons]; unfold encS; simp
    have hc := encL_count h hs
    have hpos : 1 ≤ l.length := by cases l with | nil => exact absurd rfl hne | cons s t => simp
    have e : (h8 ++ encL l).take ((h8 ++ encL l).length - 1) = h8 ++ (encL l).dropLast := by
      rw [← List.dropLast_eq_take, List.dropLast_append_of_ne_nil he]
    have hlen : (h8 ++ (encL l).dropLast).length = 8 + ((encL l).length - 1) := by simp [h8]; omega
    rw [List.length_append, show h8.length = 8 from rfl] at hl
    rw [e, split_f k _ (allB_append h8_B (fun x hx => encL_B h hs x (List.dropLast_subset _ hx))) (by omega) (by omega) (List.take_left' rfl)]
    exact ⟨[], split_less l k h8 [] 0 hne h hs (by omega) h8_B (by simp [h8]; omega) (by simp; omega) hk⟩
theorem awake_yes : ∀ k, 100 ≤ k → avocetlaw07_awake.f k = some true := by
  intro k hk
  unfold avocetlaw07_awake.f
  have e1 : sect_Split.f k [0, 97, 115, 109, 1, 0, 0, 0] = some ([], 0) := by
    have := split_back_f [] k trivial (fun s hs => by cases hs) (by simp [encL, h8]) (by simp; omega) (by simp)
    simpa [encL, h8] using this
  have e2 : sect_Split.f k [0, 97, 115, 109] = some ([], 2) := by
    unfold sect_Split.f
    rw [if_neg (by decide), if_pos (by decide)]
  have hs : small [(⟨3, [0]⟩ : S38)] := by
    intro s hs
    obtain rfl : s = ⟨3, [0]⟩ := by simpa using hs
    exact ⟨fun x hx => by simp at hx; omega, by simp⟩
  have ho : okS 0 [(⟨3, [0]⟩ : S38)] := ⟨⟨by decide, by decide, (fun h => absurd h (by decide)), Or.inr (by decide)⟩, trivial⟩
  have he : encL [(⟨3, [0]⟩ : S38)] = [3, 1, 0] := by decide
  have e3 : sect_Join.f k [(⟨3, [0]⟩ : S38)] = some (h8 ++ [3, 1, 0], 0) := by
    rcases join_f [(⟨3, [0]⟩ : S38)] hs (by simp) k (by simp; omega) with ⟨_, h⟩ | ⟨h, _⟩
    · rw [h, he, if_neg (by simp [h8])]
    · exact absurd ho h
  have e4 : sect_Split.f k (h8 ++ [3, 1, 0]) = some ([(⟨3, [0]⟩ : S38)], 0) := by
    have := split_back_f [(⟨3, [0]⟩ : S38)] k ho hs (by rw [he]; simp [h8]) (by simp; omega) (by simp)
    rw [he] at this
    exact this
  rw [e1, e2, e3]
  simp only [Option.bind_some]
  rw [e4]
  simp [h8, rd_T38]
end Go.Proofs.YtoeknjmdlmhajaaDoor.Pure
