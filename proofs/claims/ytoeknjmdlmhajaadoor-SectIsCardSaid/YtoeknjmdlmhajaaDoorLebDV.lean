/- The document's reading of LEB numbers without signs, digit by digit; its laying of them. -/
import Derived.Test.YtoeknjmdlmhajaaDoorLebV
import Derived.Test.YtoeknjmdlmhajaaDoorG5
import Derived.Test.YtoeknjmdlmhajaaDoorG8
set_option linter.unusedVariables false
set_option linter.unusedSimpArgs false
namespace Go.Proofs.YtoeknjmdlmhajaaDoor.LebD
open Go.RowKit Go.Proofs.YtoeknjmdlmhajaaDoor.G Go.Proofs.YtoeknjmdlmhajaaDoorW.PrintWords Go.Proofs.YtoeknjmdlmhajaaDoorW.PrintLast Go.Proofs.YtoeknjmdlmhajaaDoorW.PrintMore Go.Proofs.YtoeknjmdlmhajaaDoor.LebM Go.Proofs.YtoeknjmdlmhajaaDoor.LebV

/-- The seven lowest digits of two. -/
def b7 (c : Int) : List Int := [c % 2, c / 2 % 2, c / 2 / 2 % 2, c / 2 / 2 / 2 % 2, c / 2 / 2 / 2 / 2 % 2, c / 2 / 2 / 2 / 2 / 2 % 2, c / 2 / 2 / 2 / 2 / 2 / 2 % 2]
def dg (g : List Int) : List Int := g.flatMap b7
def dval : List Int → Int
  | [] => 0
  | d :: t => d + 2 * dval t
/-- as a signed number: the last digit counts less. -/
def sdv : List Int → Int
  | [] => 0
  | [d] => -d
  | d :: e :: t => d + 2 * sdv (e :: t)
def two (l : List Int) : Prop := ∀ x ∈ l, x = 0 ∨ x = 1
theorem two_tail {d : Int} {t : List Int} (h : two (d :: t)) : two t := fun x hx => h x (by simp [hx])
theorem b7_two (c : Int) : two (b7 c) := by
  intro x hx
  simp only [b7, List.mem_cons, List.not_mem_nil, or_false] at hx
  rcases hx with h | h | h | h | h | h | h <;> omega
theorem dg_two (g : List Int) : two (dg g) := fun x hx => by
  obtain ⟨c, _, hc⟩ := List.mem_flatMap.1 hx
  exact b7_two c x hc
theorem dg_len (g : List Int) : (dg g).length = 7 * g.length := by
  induction g with
  | nil => rfl
  | cons c t ih => simp only [dg, List.flatMap_cons, List.length_append, List.length_cons] at *; rw [ih]; simp [b7]; omega
theorem dval_range : ∀ (l : List Int), two l → 0 ≤ dval l ∧ dval l < 2 ^ l.length
  | [], _ => by simp [dval]
  | d :: t, h => by
    have := dval_range t (two_tail h)
    have hd := h d (by simp)
    simp only [dval, List.length_cons, Int.pow_succ]
    omega
theorem dval_append : ∀ (a b : List Int), dval (a ++ b) = dval a + 2 ^ a.length * dval b
  | [], b => by simp [dval]
  | d :: t, b => by
    simp only [List.cons_append, dval, dval_append t b, List.length_cons, Int.pow_succ]
    rw [Int.mul_comm (2 ^ t.length) 2, Int.mul_assoc]
    omega
theorem dg_val : ∀ (g : List Int), allB g → dval (dg g) = val g
  | [], _ => rfl
  | c :: t, h => by
    have hc := h c (by simp)
    have ih := dg_val t (fun x hx => h x (by simp [hx]))
    have e : dg (c :: t) = b7 c ++ dg t := rfl
    rw [e, dval_append, ih]
    simp only [b7, dval, val, List.length_cons, List.length_nil]
    omega
theorem sdv_cons (d : Int) {t : List Int} (h : t ≠ []) : sdv (d :: t) = d + 2 * sdv t := by
  cases t with
  | nil => exact absurd rfl h
  | cons e t => rfl
theorem sdv_append : ∀ (a b : List Int), b ≠ [] → sdv (a ++ b) = dval a + 2 ^ a.length * sdv b
  | [], b, _ => by simp [dval]
  | d :: t, b, h => by
    have hne : t ++ b ≠ [] := by simp [h]
    simp only [List.cons_append]
    rw [sdv_cons _ hne, sdv_append t b h]
    simp only [dval, List.length_cons, Int.pow_succ]
    rw [Int.mul_comm (2 ^ t.length) 2, Int.mul_assoc]
    omega
theorem dg_sval {g : List Int} (hG : Grp g) : sdv (dg g) = sval g := by
  induction hG with
  | one c h0 h1 => simp only [dg, b7, List.flatMap_cons, List.flatMap_nil, List.append_nil, sdv, sval]; split <;> omega
  | more c t h0 h1 ht ih =>
    have e : dg (c :: t) = b7 c ++ dg t := rfl
    have hl := dg_len t
    have hp := ht.pos
    rw [e, sdv_append _ _ (by intro h; rw [h] at hl; simp at hl; omega), ih, sval_cons _ ht.ne]
    simp only [b7, dval, List.length_cons, List.length_nil]
    omega
/-- all digits are d -/
theorem sdv_zero : ∀ (l : List Int), two l → l ≠ [] → (sdv l = 0 ↔ ∀ x ∈ l, x = 0)
  | [], _, h => absurd rfl h
  | [d], h, _ => by simp [sdv]
  | d :: e :: t, h, _ => by
    have ih := sdv_zero (e :: t) (two_tail h) (by simp)
    have hd := h d (by simp)
    rw [sdv_cons _ (by simp)]
    constructor
    · intro h0
      have hd0 : d = 0 := by omega
      intro x hx
      rw [List.mem_cons] at hx
      rcases hx with rfl | hx
      · exact hd0
      · exact ih.1 (by omega) x hx
    · intro h0
      have := ih.2 (fun x hx => h0 x (List.mem_cons_of_mem _ hx))
      have := h0 d (by simp)
      omega
theorem sdv_ones : ∀ (l : List Int), two l → l ≠ [] → (sdv l = -1 ↔ ∀ x ∈ l, x = 1)
  | [], _, h => absurd rfl h
  | [d], h, _ => by simp [sdv]
  | d :: e :: t, h, _ => by
    have ih := sdv_ones (e :: t) (two_tail h) (by simp)
    have hd := h d (by simp)
    rw [sdv_cons _ (by simp)]
    constructor
    · intro h0
      have hd0 : d = 1 := by omega
      intro x hx
      rw [List.mem_cons] at hx
      rcases hx with rfl | hx
      · exact hd0
      · exact ih.1 (by omega) x hx
    · intro h0
      have := ih.2 (fun x hx => h0 x (List.mem_cons_of_mem _ hx))
      have := h0 d (by simp)
      omega

/-! ### digits -/
theorem l1_round (k : Nat) (x0 : List Int) (x1 x9 x11 c i : Int) (D : List Int) (h0 : 0 ≤ c) (hc : c < 256) (hi : 0 ≤ i) (hi7 : i < 7) (hD : D.length < 1000) :
    avocetref01_digits.l1 (k + 1) x0 x1 x9 D x11 c i = avocetref01_digits.l1 k x0 x1 x9 (D ++ [c % 2]) x11 (c / 2) (i + 1) := by
  simp only [avocetref01_digits.l1]
  rw [if_pos hi7, if_pos (by omega), Int.tmod_eq_emod_of_nonneg h0, Int.tdiv_eq_ediv_of_nonneg h0, wrap64_id (c / 2) (by omega) (by omega), wrap64_id (i + 1) (by omega) (by omega)]
theorem l1_seven (k : Nat) (x0 : List Int) (x1 x9 x11 c : Int) (D : List Int) (h0 : 0 ≤ c) (hc : c < 256) (hD : D.length + 7 < 1000) :
    avocetref01_digits.l1 (k + 8) x0 x1 x9 D x11 c 0 = if c < 128 then some (D ++ b7 c, x1, 0) else avocetref01_digits.l0 k x0 x1 x9 (D ++ b7 c) (wrap64 (x11 + 1)) := by
  rw [l1_round (k + 7) _ _ _ _ _ _ _ h0 hc (by omega) (by omega) (by omega), l1_round (k + 6) _ _ _ _ _ _ _ (by omega) (by omega) (by omega) (by omega) (by simp; omega),
    l1_round (k + 5) _ _ _ _ _ _ _ (by omega) (by omega) (by omega) (by omega) (by simp; omega), l1_round (k + 4) _ _ _ _ _ _ _ (by omega) (by omega) (by omega) (by omega) (by simp; omega),
    l1_round (k + 3) _ _ _ _ _ _ _ (by omega) (by omega) (by omega) (by omega) (by simp; omega), l1_round (k + 2) _ _ _ _ _ _ _ (by omega) (by omega) (by omega) (by omega) (by simp; omega),
    l1_round (k + 1) _ _ _ _ _ _ _ (by omega) (by omega) (by omega) (by omega) (by simp; omega)]
  simp only [avocetref01_digits.l1]
  have e : D ++ [c % 2] ++ [c / 2 % 2] ++ [c / 2 / 2 % 2] ++ [c / 2 / 2 / 2 % 2] ++ [c / 2 / 2 / 2 / 2 % 2] ++ [c / 2 / 2 / 2 / 2 / 2 % 2] ++ [c / 2 / 2 / 2 / 2 / 2 / 2 % 2] = D ++ b7 c := by simp [b7]
  rw [e, if_neg (by omega)]
  by_cases h : c < 128
  · rw [if_pos h, if_pos (by omega)]
  · rw [if_neg h, if_neg (by omega)]
def dres (D : List Int) (x : Nat) (g : Int × List Int) : List Int × Int × Int :=
  if g.1 = 0 then (D ++ dg g.2, (x : Int) + g.2.length, 0) else ([], 0, g.1)
theorem digits_l0 (l : List Int) (hl : allB l) (hlen : l.length < 4611686018427387904) : ∀ (rem k n x : Nat) (D : List Int), 1 ≤ rem → 10 * rem ≤ k → n + rem ≤ 10 → D.length ≤ 7 * n → x ≤ l.length →
    avocetref01_digits.l0 k l (x : Int) ((n : Int) + rem) D ((n : Int) + 1) = some (dres D x (take7 rem (l.drop x)))
  | 0, k, n, x, D, h1, _, _, _, _ => by omega
  | rem + 1, k, n, x, D, _, hk, hn, hD, hx => by
    obtain ⟨k, rfl⟩ : ∃ m, k = m + 10 := ⟨k - 10, by omega⟩
    rw [show k + 10 = (k + 9) + 1 from rfl]
    simp only [avocetref01_digits.l0]
    by_cases hlt : x < l.length
    · have hc := hl (rd l x) (by rw [rd_at l x hlt]; exact List.getElem_mem hlt)
      rw [if_neg (by omega), if_pos (by omega), if_pos (by omega), drop_at l x hlt]
      generalize rd l (x : Int) = c at hc
      rw [wrap64_id c (by omega) (by omega), wrap64_id ((x : Int) + 1) (by omega) (by omega)]
      have J : ∀ b : Bool, avocetref01_digits.j2 (k + 9) l ((x : Int) + 1) ((n : Int) + ((rem + 1 : Nat) : Int)) D ((n : Int) + 1) c b = if b = true then some (([] : List Int), 0, 3) else if c < 128 then some (D ++ b7 c, (x : Int) + 1, 0) else avocetref01_digits.l0 k l ((x : Int) + 1) ((n : Int) + ((rem + 1 : Nat) : Int)) (D ++ b7 c) (wrap64 ((n : Int) + 1 + 1)) := by
        intro b
        rw [show k + 9 = (k + 8) + 1 from rfl]
        simp only [avocetref01_digits.j2]
        rw [l1_seven k _ _ _ _ _ _ hc.1 hc.2 (by omega)]
      simp only [J, take7]
      cases rem with
      | zero =>
        rw [if_pos (by omega)]
        by_cases h128 : c < 128
        · rw [decide_eq_false (by omega), if_neg (by simp), if_pos h128, if_pos h128]
          simp [dres, dg]
        · rw [decide_eq_true (by omega), if_pos rfl, if_neg h128]
          rfl
      | succ rem =>
        rw [if_neg (by omega), if_neg (by simp)]
        by_cases h128 : c < 128
        · rw [if_pos h128, if_pos h128]
          simp [dres, dg]
        · rw [if_neg h128, if_neg h128, wrap64_id _ (by omega) (by omega)]
          have ih := digits_l0 l hl hlen (rem + 1) k (n + 1) (x + 1) (D ++ b7 c) (by omega) (by omega) (by omega) (by simp [b7]; omega) (by omega)
          rw [show ((n + 1 : Nat) : Int) + ((rem + 1 : Nat) : Int) = (n : Int) + ((rem + 1 + 1 : Nat) : Int) by omega, show ((x + 1 : Nat) : Int) = (x : Int) + 1 by omega, show ((n + 1 : Nat) : Int) + 1 = (n : Int) + 1 + 1 by omega] at ih
          rw [ih]
          congr 1
          simp only [dres]
          generalize take7 (rem + 1) (l.drop (x + 1)) = g
          by_cases hg : g.1 = 0
          · rw [if_pos hg, if_pos hg]
            refine Prod.ext ?_ (Prod.ext ?_ rfl)
            · simp [dg]
            · simp; omega
          · rw [if_neg hg, if_neg hg]
    · rw [if_pos (by omega), List.drop_eq_nil_of_le (by omega)]
      rfl
theorem digits_f (k : Nat) (hk : 110 ≤ k) (l : List Int) (hl : allB l) (hlen : l.length < 4611686018427387904) (at_ bits : Int) :
    avocetref01_digits.f k l at_ bits = some (if 1 ≤ bits ∧ bits ≤ 64 ∧ 0 ≤ at_ ∧ at_ ≤ (l.length : Int) then dres [] at_.toNat (take7 ((bits.toNat + 6) / 7) (l.drop at_.toNat)) else ([], 0, 1)) := by
  obtain ⟨k, rfl⟩ : ∃ m, k = m + 1 := ⟨k - 1, by omega⟩
  unfold avocetref01_digits.f
  have J : avocetref01_digits.j0 (k + 1) l at_ bits true = some ([], 0, 1) := by simp [avocetref01_digits.j0]
  by_cases h1 : bits < 1
  · rw [if_pos h1, if_neg (by omega), J]
  · rw [if_neg h1]
    by_cases h2 : bits > 64
    · rw [if_pos h2, if_neg (by omega), J]
    · rw [if_neg h2]
      by_cases h3 : at_ < 0
      · rw [if_pos h3, if_neg (by omega), J]
      · rw [if_neg h3]
        by_cases h4 : at_ > (l.length : Int)
        · rw [decide_eq_true h4, if_neg (by omega), J]
        · rw [decide_eq_false h4, if_pos (by omega)]
          simp only [avocetref01_digits.j0, Bool.false_eq_true, if_false]
          have := digits_l0 l hl hlen ((bits.toNat + 6) / 7) k 0 at_.toNat [] (by omega) (by omega) (by omega) (by simp) (by omega)
          rw [show ((0 : Nat) : Int) + (((bits.toNat + 6) / 7 : Nat) : Int) = (bits + 6) / 7 by omega, show ((at_.toNat : Nat) : Int) = at_ by omega, show ((0 : Nat) : Int) + 1 = 1 by rfl] at this
          rw [wrap64_id (bits + 6) (by omega) (by omega), Int.tdiv_eq_ediv_of_nonneg (by omega), wrap64_id _ (by omega) (by omega)]
          exact this
theorem dval_zero : ∀ (l : List Int), two l → (dval l = 0 ↔ ∀ x ∈ l, x = 0)
  | [], _ => by simp [dval]
  | d :: t, h => by
    have ih := dval_zero t (two_tail h)
    have hd := h d (by simp)
    have hr := dval_range t (two_tail h)
    simp only [dval]
    constructor
    · intro h0 x hx
      rw [List.mem_cons] at hx
      rcases hx with rfl | hx
      · omega
      · exact ih.1 (by omega) x hx
    · intro h0
      have := ih.2 (fun x hx => h0 x (List.mem_cons_of_mem _ hx))
      have := h0 d (by simp)
      omega
theorem two_drop {l : List Int} (h : two l) (n : Nat) : two (l.drop n) := fun x hx => h x (List.mem_of_mem_drop hx)
theorem two_take {l : List Int} (h : two l) (n : Nat) : two (l.take n) := fun x hx => h x (List.mem_of_mem_take hx)
theorem refU_l0 (D : List Int) (hD : two D) (hlen : D.length ≤ 1000) (b : Nat) (nx : Int) : ∀ (i k : Nat), i ≤ D.length → i + 1 ≤ k → dval (D.drop (max b i)) = 0 →
    avocetref01_ReadU.l0 k (b : Int) D nx (dval (D.drop i) % 18446744073709551616) ((i : Int) - 1) = some (if dval (D.drop b) = 0 then (dval D % 18446744073709551616, nx, 0) else (0, 0, 3))
  | 0, k, hi, hk, hz => by
    obtain ⟨k, rfl⟩ : ∃ m, k = m + 1 := ⟨k - 1, by omega⟩
    simp only [avocetref01_ReadU.l0]
    rw [Nat.max_eq_left (by omega)] at hz
    rw [if_neg (by omega), if_pos hz, List.drop_zero]
  | i + 1, k, hi, hk, hz => by
    obtain ⟨k, rfl⟩ : ∃ m, k = m + 1 := ⟨k - 1, by omega⟩
    simp only [avocetref01_ReadU.l0]
    have hdr := drop_at D i (by omega)
    have hd : rd D (i : Int) = 0 ∨ rd D (i : Int) = 1 := hD _ (by rw [rd_at D i (by omega)]; exact List.getElem_mem _)
    have hr := dval_range _ (two_drop hD (i + 1))
    rw [show ((i + 1 : Nat) : Int) - 1 = (i : Int) by omega, if_pos (by omega), wrap64_id ((i : Int) - 1) (by omega) (by omega)]
    have hv : dval (D.drop i) = rd D (i : Int) + 2 * dval (D.drop (i + 1)) := by rw [hdr]; rfl
    have hw : IntKind.u64.wrap (IntKind.u64.wrap (dval (D.drop (i + 1)) % 18446744073709551616 * 2) + IntKind.u64.wrap (rd D (i : Int))) = dval (D.drop i) % 18446744073709551616 := by
      rw [wrap_u64, wrap_u64, wrap_u64, hv]; omega
    by_cases hb : (i : Int) ≥ (b : Int)
    · rw [if_pos hb, if_pos (by omega), if_pos (by omega)]
      rw [Nat.max_eq_right (by omega)] at hz
      by_cases h0 : rd D (i : Int) = 0
      · rw [if_pos h0, hw]
        exact refU_l0 D hD hlen b nx i k (by omega) (by omega) (by rw [Nat.max_eq_right (by omega), hv]; omega)
      · rw [if_neg h0, if_neg ?_]
        intro hc
        have h1 := (dval_zero _ (two_drop hD b)).1 hc
        have h2 := (dval_zero _ (two_drop hD i)).2 (fun x hx => h1 x (by
          have e : D.drop i = (D.drop b).drop (i - b) := by rw [List.drop_drop]; congr 1; omega
          rw [e] at hx; exact List.mem_of_mem_drop hx))
        omega
    · rw [if_neg hb, if_pos (by omega), if_pos (by omega), hw]
      rw [Nat.max_eq_left (by omega)] at hz
      exact refU_l0 D hD hlen b nx i k (by omega) (by omega) (by rw [Nat.max_eq_left (by omega)]; exact hz)
theorem drop_zero_iff (D : List Int) (hD : two D) (b : Nat) : dval (D.drop b) = 0 ↔ dval D < 2 ^ b := by
  have e := dval_append (D.take b) (D.drop b)
  rw [List.take_append_drop] at e
  have h1 := dval_range _ (two_take hD b)
  have h2 := dval_range _ (two_drop hD b)
  have hp := pow_nn b
  rcases Nat.lt_or_ge D.length b with h | h
  · rw [List.drop_eq_nil_of_le (by omega)] at e ⊢
    have h3 := dval_range D hD
    have : (2 : Int) ^ D.length ≤ 2 ^ b := by exact_mod_cast Nat.pow_le_pow_right (by omega) (by omega)
    simp only [dval]
    exact ⟨fun _ => by omega, fun _ => trivial⟩
  · rw [List.length_take, Nat.min_eq_left h] at e h1
    constructor
    · intro h0; rw [h0] at e; omega
    · intro hlt
      rcases Int.lt_or_le 0 (dval (D.drop b)) with hq | hq
      · have : (2 : Int) ^ b * 1 ≤ 2 ^ b * dval (D.drop b) := Int.mul_le_mul_of_nonneg_left (by omega) (by omega)
        omega
      · omega
theorem refReadU_f (k : Nat) (hk : 200 ≤ k) (l : List Int) (hl : allB l) (hlen : l.length < 4611686018427387904) (at_ bits : Int) : avocetref01_ReadU.f k l at_ bits = some (rU l at_ bits) := by
  unfold avocetref01_ReadU.f
  rw [digits_f k (by omega) l hl hlen, Option.bind_some]
  unfold rU
  by_cases hb : 1 ≤ bits ∧ bits ≤ 64 ∧ 0 ≤ at_ ∧ at_ ≤ (l.length : Int)
  · rw [if_pos hb, if_pos hb]
    have tt := take7_tells ((bits.toNat + 6) / 7) (l.drop at_.toNat) (allB_drop hl _)
    have ea : ((at_.toNat : Nat) : Int) = at_ := by omega
    generalize take7 ((bits.toNat + 6) / 7) (l.drop at_.toNat) = g at tt ⊢
    simp only [dres, ea, List.nil_append]
    by_cases hg : g.1 = 0
    · rcases tt with ⟨_, hG, hm, _⟩ | h | h
      · rw [if_pos hg, if_pos hg]
        simp only [if_true]
        have hL := dg_len g.2
        have hv := dg_val g.2 hG.bytes
        have ht := dg_two g.2
        have hz := drop_zero_iff (dg g.2) ht bits.toNat
        have hvn := val_nonneg hG
        have hr := refU_l0 (dg g.2) ht (by omega) bits.toNat (at_ + (g.2.length : Int)) (dg g.2).length k (Nat.le_refl _) (by omega) (by rw [List.drop_eq_nil_of_le (by omega)]; rfl)
        rw [List.drop_eq_nil_of_le (Nat.le_refl _), show ((bits.toNat : Nat) : Int) = bits by omega] at hr
        simp only [dval, Int.zero_emod] at hr
        rw [wrap64_id _ (by omega) (by omega), hr]
        have h64 : (2 : Int) ^ bits.toNat ≤ 2 ^ 64 := by exact_mod_cast Nat.pow_le_pow_right (by omega) (by omega)
        congr 1
        by_cases hlt : val g.2 < 2 ^ bits.toNat
        · rw [if_pos hlt, if_pos (hz.2 (by rw [hv]; exact hlt)), hv, Int.emod_eq_of_lt hvn (by omega)]
        · rw [if_neg hlt, if_neg (fun h => hlt (by rw [← hv]; exact hz.1 h))]
      · omega
      · omega
    · rw [if_neg hg, if_neg hg]
      simp only
      rw [if_neg hg]
  · rw [if_neg hb, if_neg hb]
    rfl

/-! ### signed -/
end Go.Proofs.YtoeknjmdlmhajaaDoor.LebD
