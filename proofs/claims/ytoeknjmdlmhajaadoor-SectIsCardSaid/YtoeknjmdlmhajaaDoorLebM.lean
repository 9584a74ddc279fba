/- The plain mathematics of numbers in groups of seven digits: no program in sight. -/
import Derived.Laws.BitsAllLaws
import Derived.Lib.BitFns
import GoSem.ClaimData
set_option linter.unusedVariables false
set_option linter.unusedSimpArgs false
namespace Go.Proofs.YtoeknjmdlmhajaaDoor.LebM

/-- The bytes of a number that is not below 0. -/
def uB : Nat → Int → List Int
  | 0, v => [v]
  | k + 1, v => if v ≥ 128 then (v % 128 + 128) :: uB k (v / 128) else [v]
/-- The bytes of a signed number. -/
def sB : Nat → Int → List Int
  | 0, v => [v % 128]
  | k + 1, v => if v < -64 ∨ v ≥ 64 then (v % 128 + 128) :: sB k (v / 128) else [v % 128]
/-- The bytes up to the first below 128, m at most; with an error's number. -/
def take7 : Nat → List Int → Int × List Int
  | 0, _ => (3, [])
  | _ + 1, [] => (2, [])
  | m + 1, c :: t => if c < 128 then (0, [c]) else ((take7 m t).1, c :: (take7 m t).2)
def val : List Int → Int
  | [] => 0
  | c :: t => c % 128 + 128 * val t
def sval : List Int → Int
  | [] => 0
  | [c] => if c % 128 < 64 then c % 128 else c % 128 - 128
  | c :: d :: t => c % 128 + 128 * sval (d :: t)
/-- A whole group: all but the last are at least 128. -/
inductive Grp : List Int → Prop
  | one (c : Int) (h0 : 0 ≤ c) (h1 : c < 128) : Grp [c]
  | more (c : Int) (t : List Int) (h0 : 128 ≤ c) (h1 : c < 256) (ht : Grp t) : Grp (c :: t)

theorem Grp.ne {l : List Int} (h : Grp l) : l ≠ [] := by cases h <;> simp
theorem Grp.pos {l : List Int} (h : Grp l) : 1 ≤ l.length := by cases h <;> simp
theorem Grp.bytes {l : List Int} (h : Grp l) : ∀ x ∈ l, 0 ≤ x ∧ x < 256 := by
  induction h with
  | one c h0 h1 => intro x hx; simp at hx; omega
  | more c t h0 h1 ht ih => intro x hx; simp at hx; rcases hx with rfl | hx; omega; exact ih x hx
theorem val_nonneg {l : List Int} (h : Grp l) : 0 ≤ val l := by
  induction h with
  | one c h0 h1 => simp only [val]; omega
  | more c t h0 h1 ht ih => simp only [val]; omega

/-! ### laying, and reading what was laid -/
theorem uB_grp : ∀ (k : Nat) (v : Int), 0 ≤ v → v < 128 * 128 ^ k → Grp (uB k v)
  | 0, v, h0, h1 => by simp at h1; exact .one v h0 h1
  | k + 1, v, h0, h1 => by
    unfold uB
    split
    · exact .more _ _ (by omega) (by omega) (uB_grp k (v / 128) (by omega) (by rw [Int.pow_succ] at h1; omega))
    · exact .one v h0 (by omega)
theorem uB_val : ∀ (k : Nat) (v : Int), 0 ≤ v → v < 128 * 128 ^ k → val (uB k v) = v
  | 0, v, h0, h1 => by simp at h1; simp only [uB, val]; omega
  | k + 1, v, h0, h1 => by
    unfold uB
    split
    · simp only [val]; rw [uB_val k (v / 128) (by omega) (by rw [Int.pow_succ] at h1; omega)]; omega
    · simp only [val]; omega
theorem uB_len : ∀ (k : Nat) (v : Int), (uB k v).length ≤ k + 1
  | 0, v => by simp [uB]
  | k + 1, v => by
    unfold uB
    split
    · have := uB_len k (v / 128); simp; omega
    · simp
theorem sB_grp : ∀ (k : Nat) (v : Int), -64 * 128 ^ k ≤ v → v < 64 * 128 ^ k → Grp (sB k v)
  | 0, v, h0, h1 => .one _ (by omega) (by omega)
  | k + 1, v, h0, h1 => by
    unfold sB
    rw [Int.pow_succ] at h0 h1
    split
    · exact .more _ _ (by omega) (by omega) (sB_grp k (v / 128) (by omega) (by omega))
    · exact .one _ (by omega) (by omega)
theorem sval_cons (c : Int) {t : List Int} (h : t ≠ []) : sval (c :: t) = c % 128 + 128 * sval t := by
  cases t with
  | nil => exact absurd rfl h
  | cons d t => rfl
theorem sB_ne (k : Nat) (v : Int) : sB k v ≠ [] := by
  cases k with
  | zero => simp [sB]
  | succ k => unfold sB; split <;> simp
theorem sB_val : ∀ (k : Nat) (v : Int), -64 * 128 ^ k ≤ v → v < 64 * 128 ^ k → sval (sB k v) = v
  | 0, v, h0, h1 => by simp at h0 h1; simp only [sB, sval]; split <;> omega
  | k + 1, v, h0, h1 => by
    unfold sB
    rw [Int.pow_succ] at h0 h1
    split
    · rw [sval_cons _ (sB_ne _ _), sB_val k (v / 128) (by omega) (by omega)]; omega
    · simp only [sval]; split <;> omega
theorem sB_len : ∀ (k : Nat) (v : Int), (sB k v).length ≤ k + 1
  | 0, v => by simp [sB]
  | k + 1, v => by
    unfold sB
    split
    · have := sB_len k (v / 128); simp; omega
    · simp

/-! ### groups and take7 -/
theorem take7_grp {l : List Int} (h : Grp l) : ∀ (m : Nat) (t : List Int), l.length ≤ m → take7 m (l ++ t) = (0, l) := by
  induction h with
  | one c h0 h1 =>
    intro m t hm
    obtain ⟨m, rfl⟩ : ∃ j, m = j + 1 := ⟨m - 1, by simp at hm; omega⟩
    simp [take7, h1]
  | more c l h0 h1 hl ih =>
    intro m t hm
    obtain ⟨m, rfl⟩ : ∃ j, m = j + 1 := ⟨m - 1, by simp at hm; omega⟩
    have := ih m t (by simpa using hm)
    simp only [List.cons_append, take7]
    rw [if_neg (by omega), this]
/-- Too many bytes for the width. -/
theorem take7_long {l : List Int} (h : Grp l) : ∀ (m : Nat) (t : List Int), m < l.length → (take7 m (l ++ t)).1 = 3 := by
  induction h with
  | one c h0 h1 =>
    intro m t hm
    obtain rfl : m = 0 := by simpa using hm
    rfl
  | more c l h0 h1 hl ih =>
    intro m t hm
    cases m with
    | zero => rfl
    | succ m =>
      simp only [List.cons_append, take7]
      rw [if_neg (by omega)]
      exact ih m t (by simpa using hm)
/-- A byte less. -/
theorem take7_less {l : List Int} (h : Grp l) : ∀ (m : Nat), l.length ≤ m → (take7 m (l.take (l.length - 1))).1 = 2 := by
  induction h with
  | one c h0 h1 =>
    intro m hm
    obtain ⟨m, rfl⟩ : ∃ j, m = j + 1 := ⟨m - 1, by simp at hm; omega⟩
    rfl
  | more c l h0 h1 hl ih =>
    intro m hm
    obtain ⟨m, rfl⟩ : ∃ j, m = j + 1 := ⟨m - 1, by simp at hm; omega⟩
    have hp := hl.pos
    have e : (c :: l).take ((c :: l).length - 1) = c :: l.take (l.length - 1) := by
      obtain ⟨n, hn⟩ : ∃ n, l.length = n + 1 := ⟨l.length - 1, by omega⟩
      simp [hn]
    rw [e]
    simp only [take7]
    rw [if_neg (by omega)]
    exact ih m (by simpa using hm)
theorem take7_ne (m : Nat) (l : List Int) (h : (take7 m l).1 = 0) : (take7 m l).2 ≠ [] := by
  cases m with
  | zero => simp [take7] at h
  | succ m =>
    cases l with
    | nil => simp [take7] at h
    | cons c t =>
      simp only [take7]
      split <;> simp
/-- What take7 tells of bytes. -/
theorem take7_tells : ∀ (m : Nat) (l : List Int), (∀ x ∈ l, 0 ≤ x ∧ x < 256) → ((take7 m l).1 = 0 ∧ Grp (take7 m l).2 ∧ (take7 m l).2.length ≤ m ∧ ∃ t, l = (take7 m l).2 ++ t) ∨ (take7 m l).1 = 2 ∨ (take7 m l).1 = 3
  | 0, _, _ => .inr (.inr rfl)
  | m + 1, [], _ => .inr (.inl rfl)
  | m + 1, c :: t, h => by
    have hc := h c (by simp)
    simp only [take7]
    split
    · exact .inl ⟨rfl, .one c hc.1 ‹_›, by simp, t, rfl⟩
    · rcases take7_tells m t (fun x hx => h x (by simp [hx])) with ⟨h1, h2, h3, u, hu⟩ | h1 | h1
      · refine .inl ⟨h1, .more c _ (by omega) (by omega) h2, by simpa using h3, u, ?_⟩
        simp only [List.cons_append]; rw [← hu]
      · exact .inr (.inl h1)
      · exact .inr (.inr h1)

/-! ### fitting into a width -/
def last : List Int → Int
  | [] => 0
  | [c] => c
  | _ :: d :: t => last (d :: t)
theorem last_cons (c : Int) {t : List Int} (h : t ≠ []) : last (c :: t) = last t := by
  cases t with
  | nil => exact absurd rfl h
  | cons d t => rfl
theorem last_range {l : List Int} (h : Grp l) : 0 ≤ last l ∧ last l < 128 := by
  induction h with
  | one c h0 h1 => exact ⟨h0, h1⟩
  | more c t h0 h1 ht ih => rw [last_cons _ ht.ne]; exact ih
theorem pow7 (b : Nat) : (2 : Int) ^ (b + 7) = 128 * 2 ^ b := by rw [Int.pow_add]; omega
theorem fitU {l : List Int} (h : Grp l) : ∀ (b : Nat), 7 * (l.length - 1) < b → (7 * l.length ≤ b → val l < 2 ^ b) ∧ (b < 7 * l.length → (last l / 2 ^ (b - 7 * (l.length - 1)) = 0 ↔ val l < 2 ^ b)) := by
  induction h with
  | one c h0 h1 =>
    intro b hb
    have e : c % 128 = c := by omega
    refine ⟨fun h => ?_, fun h => ?_⟩
    · have : (2 : Int) ^ 7 ≤ 2 ^ b := by exact_mod_cast Nat.pow_le_pow_right (by omega) (by simpa using h)
      simp only [val]; omega
    · have hp : (0 : Int) < 2 ^ b := by exact_mod_cast Nat.two_pow_pos b
      simp only [val, last, e, List.length_singleton, Nat.sub_self, Nat.mul_zero, Nat.sub_zero, Int.add_zero]
      constructor
      · intro h'
        have := Int.lt_ediv_add_one_mul_self c hp
        rw [h'] at this; omega
      · intro h'; exact Int.ediv_eq_zero_of_lt h0 (by omega)
  | more c t h0 h1 ht ih =>
    intro b hb
    have hp := ht.pos
    have hl : (c :: t).length = t.length + 1 := rfl
    obtain ⟨d, rfl⟩ : ∃ d, b = d + 7 := ⟨b - 7, by rw [hl] at hb; omega⟩
    have ih := ih d (by rw [hl] at hb; omega)
    rw [last_cons _ ht.ne, hl, pow7]
    simp only [val]
    have e : d + 7 - 7 * (t.length + 1 - 1) = d - 7 * (t.length - 1) := by omega
    rw [e]
    have hv := val_nonneg ht
    refine ⟨fun h => ?_, fun h => ?_⟩
    · have := ih.1 (by omega); omega
    · rw [(ih.2 (by omega))]; omega
theorem fitS1 : ∀ (b : Fin 6) (c : Fin 128), ((c.val : Int) / 2 ^ b.val = 0 ∨ (c.val : Int) / 2 ^ b.val = 127 / 2 ^ b.val) ↔ (-(2 : Int) ^ b.val ≤ sval [(c.val : Int)] ∧ sval [(c.val : Int)] < 2 ^ b.val) := by decide +kernel
theorem sval_one_range (c : Int) : -64 ≤ sval [c] ∧ sval [c] < 64 := by simp only [sval]; split <;> omega
theorem fitS {l : List Int} (h : Grp l) : ∀ (b : Nat), 7 * (l.length - 1) < b →
    (7 * l.length ≤ b → -(2 : Int) ^ (b - 1) ≤ sval l ∧ sval l < 2 ^ (b - 1)) ∧
    (b < 7 * l.length → ((last l / 2 ^ (b - 7 * (l.length - 1) - 1) = 0 ∨ last l / 2 ^ (b - 7 * (l.length - 1) - 1) = 127 / 2 ^ (b - 7 * (l.length - 1) - 1)) ↔ (-(2 : Int) ^ (b - 1) ≤ sval l ∧ sval l < 2 ^ (b - 1)))) := by
  induction h with
  | one c h0 h1 =>
    intro b hb
    simp only [List.length_singleton, Nat.sub_self, Nat.mul_zero, Nat.sub_zero] at *
    refine ⟨fun h => ?_, fun h => ?_⟩
    · have : (2 : Int) ^ 6 ≤ 2 ^ (b - 1) := by exact_mod_cast Nat.pow_le_pow_right (by omega) (by omega)
      have := sval_one_range c
      omega
    · have := fitS1 ⟨b - 1, by omega⟩ ⟨c.toNat, by omega⟩
      simp only [Int.toNat_of_nonneg h0] at this
      exact this
  | more c t h0 h1 ht ih =>
    intro b hb
    have hp := ht.pos
    have hl : (c :: t).length = t.length + 1 := rfl
    rw [hl] at hb ⊢
    obtain ⟨d, rfl⟩ : ∃ d, b = d + 7 := ⟨b - 7, by omega⟩
    have ih := ih d (by omega)
    rw [last_cons _ ht.ne, sval_cons _ ht.ne]
    have e : d + 7 - 7 * (t.length + 1 - 1) - 1 = d - 7 * (t.length - 1) - 1 := by omega
    have e2 : (2 : Int) ^ (d + 7 - 1) = 128 * 2 ^ (d - 1) := by rw [← pow7]; congr 1; omega
    rw [e, e2]
    refine ⟨fun h => ?_, fun h => ?_⟩
    · have := ih.1 (by omega); omega
    · rw [ih.2 (by omega)]; omega
/-- A signed number and the other one of the same bytes. -/
theorem sval_val {l : List Int} (h : Grp l) : sval l = if last l < 64 then val l else val l - 2 ^ (7 * l.length) := by
  induction h with
  | one c h0 h1 =>
    have e : c % 128 = c := by omega
    simp only [sval, val, last, e, List.length_singleton]
    split <;> omega
  | more c t h0 h1 ht ih =>
    rw [sval_cons _ ht.ne, last_cons _ ht.ne, ih]
    have hl : (c :: t).length = t.length + 1 := rfl
    have e : 7 * (t.length + 1) = 7 * t.length + 7 := by omega
    rw [hl, e, pow7]
    simp only [val]
    split <;> omega
theorem val_lt {l : List Int} (h : Grp l) : val l < 2 ^ (7 * l.length) := (fitU h (7 * l.length) (by have := h.pos; omega)).1 (Nat.le_refl _)

/-! ### lengths -/
theorem bitLen_pos (n : Nat) (h : 1 ≤ n) : 1 ≤ Lib.bitLen n := by
  unfold Lib.bitLen
  rw [show (64 : Nat) = 63 + 1 from rfl]
  unfold Lib.bitLenAux
  rw [if_neg (by omega)]
  omega
theorem bitLen_le (n k : Nat) (h : n < 2 ^ k) : Lib.bitLen n ≤ k := Lib.bitLenAux_le 64 n k h
theorem bitLen_zero : Lib.bitLen 0 = 0 := by decide
theorem bitLen_one : Lib.bitLen 1 = 1 := by decide
theorem uB_length : ∀ (k : Nat) (v : Int), 0 ≤ v → v < 128 * 128 ^ k → v < 18446744073709551616 → (uB k v).length = max 1 ((Lib.bitLen v.toNat + 6) / 7)
  | 0, v, h0, h1, h2 => by
    have := bitLen_le v.toNat 7 (by simp at h1; omega)
    simp only [uB, List.length_singleton]; omega
  | k + 1, v, h0, h1, h2 => by
    unfold uB
    split
    · rw [List.length_cons, uB_length k (v / 128) (by omega) (by rw [Int.pow_succ] at h1; omega) (by omega)]
      have e : (v / 128).toNat = v.toNat / 128 := by omega
      have l := Lib.bitLen_shift 7 v.toNat (by omega) (by omega)
      have p := bitLen_pos (v.toNat / 128) (by omega)
      rw [e]
      rw [show (2 : Nat) ^ 7 = 128 from rfl] at l
      omega
    · have := bitLen_le v.toNat 7 (by omega)
      simp only [List.length_singleton]; omega
/-- The part of a signed number that counts for its length. -/
def mag (v : Int) : Nat := if v < 0 then (-1 - v).toNat else v.toNat
theorem mag_div (v : Int) : mag (v / 128) = mag v / 128 := by unfold mag; split <;> split <;> omega
theorem sB_length : ∀ (k : Nat) (v : Int), -64 * 128 ^ k ≤ v → v < 64 * 128 ^ k → -9223372036854775808 ≤ v → v < 9223372036854775808 → (sB k v).length = Lib.bitLen (mag v) / 7 + 1
  | 0, v, h0, h1, h2, h3 => by
    have := bitLen_le (mag v) 6 (by simp at h0 h1; unfold mag; split <;> omega)
    simp only [sB, List.length_singleton]; omega
  | k + 1, v, h0, h1, h2, h3 => by
    unfold sB
    rw [Int.pow_succ] at h0 h1
    split
    · have hm : 64 ≤ mag v ∧ mag v < 9223372036854775808 := by unfold mag; split <;> omega
      rw [List.length_cons, sB_length k (v / 128) (by omega) (by omega) (by omega) (by omega), mag_div]
      have l : Lib.bitLen (mag v) = 7 + Lib.bitLen (mag v / 128) := by
        rcases Nat.lt_or_ge (mag v) 128 with h | h
        · have l := Lib.bitLen_shift 6 (mag v) (by omega) (by omega)
          rw [show mag v / 2 ^ 6 = 1 by omega, bitLen_one] at l
          rw [show mag v / 128 = 0 by omega, bitLen_zero]; omega
        · exact Lib.bitLen_shift 7 (mag v) (by omega) (by omega)
      omega
    · have := bitLen_le (mag v) 6 (by unfold mag; split <;> omega)
      simp only [List.length_singleton]; omega

/-! ### an input's numbers are of their kinds -/
theorem wf_u64 {x : Int} (h : (Lit.int .u64 x).wf = true) : 0 ≤ x ∧ x < 18446744073709551616 := by
  simp [Lit.wf, IntKind.min, IntKind.max, IntKind.bits, IntKind.signed] at h
  omega
theorem wf_i64 {x : Int} (h : (Lit.int .i64 x).wf = true) : -9223372036854775808 ≤ x ∧ x < 9223372036854775808 := by
  simp [Lit.wf, IntKind.min, IntKind.max, IntKind.bits, IntKind.signed] at h
  omega
theorem wf_u8 {x : Int} (h : (Lit.int .u8 x).wf = true) : 0 ≤ x ∧ x < 256 := by
  simp [Lit.wf, IntKind.min, IntKind.max, IntKind.bits, IntKind.signed] at h
  omega
theorem bitLenAux_mono : ∀ (f a b : Nat), a ≤ b → Lib.bitLenAux f a ≤ Lib.bitLenAux f b
  | 0, _, _, _ => Nat.le_refl _
  | f + 1, a, b, h => by
    simp only [Lib.bitLenAux]
    have := bitLenAux_mono f (a / 2) (b / 2) (by omega)
    split
    · exact Nat.zero_le _
    · rw [if_neg (by omega)]; omega
theorem bitLen_mono {a b : Nat} (h : a ≤ b) : Lib.bitLen a ≤ Lib.bitLen b := bitLenAux_mono 64 a b h

/-! ### digits of two -/
theorem or128 (x : Int) (h0 : 0 ≤ x) (h1 : x < 256) : Go.bits .or .u8 x 128 = x % 128 + 128 := by
  rw [u8_or x 128 h0 h1 (by omega) (by omega)]
  have : ∀ n : Fin 256, ((n.val ||| 128 : Nat) : Int) = (n.val : Int) % 128 + 128 := by decide +kernel
  have := this ⟨x.toNat, by omega⟩
  simp only [Int.toNat_of_nonneg h0] at this
  exact this
theorem and127 (x : Int) (h0 : 0 ≤ x) (h1 : x < 256) : Go.bits .and .u8 x 127 = x % 128 := by
  rw [u8_and x 127 h0 h1 (by omega) (by omega)]
  rw [show (127 : Int).toNat = 127 from rfl, nat_mask7]
  omega

end Go.Proofs.YtoeknjmdlmhajaaDoor.LebM
