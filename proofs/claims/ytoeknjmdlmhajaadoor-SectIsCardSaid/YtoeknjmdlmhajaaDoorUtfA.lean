/- Plain facts on texts of UTF-8 as lists of numbers: each text is its numbers' bytes one behind the other, in one way. -/
import Derived.Test.YtoeknjmdlmhajaaDoorG1
import Derived.Lib.ValidLaws
namespace Go.Proofs.YtoeknjmdlmhajaaDoor.Pure
open Go.RowKit Go.Proofs.YtoeknjmdlmhajaaDoor.G Go.Proofs.YtoeknjmdlmhajaaDoorW.PrintWords Go.Proofs.YtoeknjmdlmhajaaDoorW.PrintLast
set_option linter.unusedVariables false
set_option linter.unusedSimpArgs false
def okr (r : Int) : Bool := decide ((0 ≤ r ∧ r < 55296) ∨ (57344 ≤ r ∧ r ≤ 1114111))
def enc (r : Int) : List Int :=
  if r < 128 then [r] else if r < 2048 then [192 + r / 64, 128 + r % 64] else if r < 65536 then [224 + r / 4096, 128 + r / 64 % 64, 128 + r % 64]
  else [240 + r / 262144, 128 + r / 4096 % 64, 128 + r / 64 % 64, 128 + r % 64]
def flat (rs : List Int) : List Int := rs.flatMap enc
theorem flat_nil : flat [] = [] := rfl
theorem flat_cons (r : Int) (rs : List Int) : flat (r :: rs) = enc r ++ flat rs := by simp [flat]
theorem flat_append (a b : List Int) : flat (a ++ b) = flat a ++ flat b := by simp [flat]
def okl (rs : List Int) : Prop := ∀ r ∈ rs, okr r = true
theorem okl_nil : okl [] := fun _ h => by cases h
theorem okl_cons {r : Int} {rs : List Int} : okl (r :: rs) ↔ okr r = true ∧ okl rs := by simp [okl]
theorem okl_append {a b : List Int} : okl (a ++ b) ↔ okl a ∧ okl b := by
  simp only [okl, List.mem_append]
  exact ⟨fun h => ⟨fun r hr => h r (.inl hr), fun r hr => h r (.inr hr)⟩, fun h r hr => hr.elim (h.1 r) (h.2 r)⟩
theorem enc_len (r : Int) : 1 ≤ (enc r).length ∧ (enc r).length ≤ 4 := by
  unfold enc
  repeat' split
  all_goals simp
theorem enc_byte {r : Int} (h : okr r = true) : (enc r).all u8byte = true := by
  simp only [okr, decide_eq_true_eq] at h
  unfold enc
  repeat' split
  all_goals simp only [List.all_cons, List.all_nil, u8byte, Bool.and_true, Bool.and_eq_true, decide_eq_true_eq]
  all_goals omega
theorem flat_byte : ∀ {rs : List Int}, okl rs → (flat rs).all u8byte = true
  | [], _ => rfl
  | r :: rs, h => by
    rw [flat_cons, List.all_append, enc_byte (okl_cons.1 h).1, flat_byte (okl_cons.1 h).2]
    rfl
/-- What the model's decoder tells of the first bytes of l. -/
def dN (l : List Int) : Nat × Nat := Lib.decodeN l.length (l.getD 0 0).toNat (l.getD 1 0).toNat (l.getD 2 0).toNat (l.getD 3 0).toNat
theorem get!_str (l : List Int) (hb : l.all u8byte = true) (i : Nat) : ((strOfNums l).get! i).toNat = (l.getD i 0).toNat := by
  by_cases hi : i < l.length
  · have h := get!_strOfNums l hb i hi
    have h2 : rd l (i : Int) = l.getD i 0 := by unfold rd; rw [Int.toNat_natCast]
    rw [h2] at h
    omega
  · rw [← getD_get!_, List.getD_eq_getElem?_getD, strOfNums_data, List.getElem?_eq_none (by simp; omega), List.getD_eq_getElem?_getD, List.getElem?_eq_none (by omega)]
    rfl
theorem dec_str (l : List Int) (hb : l.all u8byte = true) (i : Nat) : Utf8.decode (strOfNums l) i = dN (l.drop i) := by
  rw [Lib.decode_at, get!_str l hb, get!_str l hb, get!_str l hb, get!_str l hb, strOfNums_size]
  unfold dN
  simp only [List.length_drop, List.getD_eq_getElem?_getD, List.getElem?_drop, Nat.add_zero]
def valid8 (l : List Int) : Bool := Lib.validD (strOfNums l).data.toList
theorem valid8_nil : valid8 [] = true := rfl
theorem drop_byte {l : List Int} (hb : l.all u8byte = true) (k : Nat) : (l.drop k).all u8byte = true := by
  rw [List.all_eq_true] at hb ⊢
  exact fun x hx => hb x (List.mem_of_mem_drop hx)
theorem take_byte {l : List Int} (hb : l.all u8byte = true) (k : Nat) : (l.take k).all u8byte = true := by
  rw [List.all_eq_true] at hb ⊢
  exact fun x hx => hb x (List.mem_of_mem_take hx)
theorem valid8_step (l : List Int) (hb : l.all u8byte = true) (hne : l ≠ []) : valid8 l = if (dN l).1 = 65533 ∧ (dN l).2 = 1 then false else valid8 (l.drop (dN l).2) := by
  have hd : Lib.decodeL (strOfNums l).data.toList = dN l := by
    have := dec_str l hb 0
    rw [List.drop_zero] at this
    exact this
  unfold valid8
  rw [Lib.validD_step _ (by rw [strOfNums_data]; simpa using hne), hd]
  split
  · rfl
  · rw [strOfNums_data, strOfNums_data, List.map_drop]
theorem dN_enc {r : Int} (h : okr r = true) (t : List Int) : dN (enc r ++ t) = (r.toNat, (enc r).length) := by
  simp only [okr, decide_eq_true_eq] at h
  obtain ⟨n, rfl⟩ : ∃ n : Nat, r = (n : Int) := ⟨r.toNat, by omega⟩
  unfold dN enc
  by_cases c1 : (n : Int) < 128
  · simp only [if_pos c1]
    simp [Lib.decodeN]
    omega
  · by_cases c2 : (n : Int) < 2048
    · simp only [if_neg c1, if_pos c2]
      have e0 : (192 + (n : Int) / 64).toNat = 192 + n / 64 := by omega
      have e1 : (128 + (n : Int) % 64).toNat = 128 + n % 64 := by omega
      simp only [List.cons_append, List.nil_append, List.length_cons, List.getD_cons_zero, List.getD_cons_succ, e0, e1, List.length_nil]
      unfold Lib.decodeN
      rw [if_neg (by omega), if_pos (by omega), if_pos (by omega)]
      simp only [Prod.mk.injEq, and_true]
      omega
    · by_cases c3 : (n : Int) < 65536
      · simp only [if_neg c1, if_neg c2, if_pos c3]
        have e0 : (224 + (n : Int) / 4096).toNat = 224 + n / 4096 := by omega
        have e1 : (128 + (n : Int) / 64 % 64).toNat = 128 + n / 64 % 64 := by omega
        have e2 : (128 + (n : Int) % 64).toNat = 128 + n % 64 := by omega
        simp only [List.cons_append, List.nil_append, List.length_cons, List.getD_cons_zero, List.getD_cons_succ, e0, e1, e2, List.length_nil]
        unfold Lib.decodeN
        rw [if_neg (by omega), if_neg (by omega), if_pos (by omega), if_pos (by omega)]
        simp only [Prod.mk.injEq, and_true]
        omega
      · simp only [if_neg c1, if_neg c2, if_neg c3]
        have e0 : (240 + (n : Int) / 262144).toNat = 240 + n / 262144 := by omega
        have e1 : (128 + (n : Int) / 4096 % 64).toNat = 128 + n / 4096 % 64 := by omega
        have e2 : (128 + (n : Int) / 64 % 64).toNat = 128 + n / 64 % 64 := by omega
        have e3 : (128 + (n : Int) % 64).toNat = 128 + n % 64 := by omega
        simp only [List.cons_append, List.nil_append, List.length_cons, List.getD_cons_zero, List.getD_cons_succ, e0, e1, e2, e3, List.length_nil]
        unfold Lib.decodeN
        rw [if_neg (by omega), if_neg (by omega), if_neg (by omega), if_pos (by omega), if_pos (by omega)]
        simp only [Prod.mk.injEq, and_true]
        omega
theorem byte_of {x : Int} (h : u8byte x = true) : ∃ b : Nat, x = (b : Int) ∧ b < 256 := by
  simp only [u8byte, decide_eq_true_eq] at h
  exact ⟨x.toNat, by omega, by omega⟩
theorem dN_ok (l : List Int) (hb : l.all u8byte = true) (hne : l ≠ []) : dN l = (65533, 1) ∨ ∃ r, okr r = true ∧ dN l = (r.toNat, (enc r).length) ∧ l = enc r ++ l.drop (enc r).length := by
  cases l with
  | nil => exact absurd rfl hne
  | cons x0 t =>
    simp only [List.all_cons, Bool.and_eq_true] at hb
    obtain ⟨b0, rfl, h0⟩ := byte_of hb.1
    unfold dN
    simp only [List.getD_cons_zero, List.getD_cons_succ, Int.toNat_natCast, List.length_cons]
    unfold Lib.decodeN
    by_cases c1 : b0 < 128
    · rw [if_pos c1]
      refine .inr ⟨(b0 : Int), ?_, ?_, ?_⟩
      · simp only [okr, decide_eq_true_eq]; omega
      · simp only [enc, if_pos (show (b0 : Int) < 128 by omega)]; simp
      · simp only [enc, if_pos (show (b0 : Int) < 128 by omega)]; simp
    · rw [if_neg c1]
      split
      · rename_i c2
        cases t with
        | nil => simp at c2
        | cons x1 t =>
          simp only [List.all_cons, Bool.and_eq_true] at hb
          obtain ⟨b1, rfl, h1⟩ := byte_of hb.2.1
          simp only [List.getD_cons_zero, List.getD_cons_succ, Int.toNat_natCast] at c2 ⊢
          split
          · rename_i c3
            have hr : ((b0 % 32 * 64 + b1 % 64 : Nat) : Int) < 2048 := by omega
            have hr1 : ¬ ((b0 % 32 * 64 + b1 % 64 : Nat) : Int) < 128 := by omega
            refine .inr ⟨((b0 % 32 * 64 + b1 % 64 : Nat) : Int), ?_, ?_, ?_⟩
            · simp only [okr, decide_eq_true_eq]; omega
            · simp only [enc, if_neg hr1, if_pos hr, Int.toNat_natCast]; rfl
            · simp only [enc, if_neg hr1, if_pos hr, List.length_cons, List.length_nil, List.drop_succ_cons, List.drop_zero, List.cons_append, List.nil_append, List.cons.injEq, and_true]
              omega
          · exact .inl rfl
      · split
        · rename_i c2 c3
          cases t with
          | nil => simp at c3
          | cons x1 t =>
          cases t with
          | nil => simp at c3
          | cons x2 t =>
            simp only [List.all_cons, Bool.and_eq_true] at hb
            obtain ⟨b1, rfl, h1⟩ := byte_of hb.2.1
            obtain ⟨b2, rfl, h2⟩ := byte_of hb.2.2.1
            simp only [List.getD_cons_zero, List.getD_cons_succ, Int.toNat_natCast] at c3 ⊢
            split
            · rename_i c4
              have hr : ((b0 % 16 * 4096 + b1 % 64 * 64 + b2 % 64 : Nat) : Int) < 65536 := by omega
              have hr1 : ¬ ((b0 % 16 * 4096 + b1 % 64 * 64 + b2 % 64 : Nat) : Int) < 2048 := by omega
              have hr2 : ¬ ((b0 % 16 * 4096 + b1 % 64 * 64 + b2 % 64 : Nat) : Int) < 128 := by omega
              refine .inr ⟨((b0 % 16 * 4096 + b1 % 64 * 64 + b2 % 64 : Nat) : Int), ?_, ?_, ?_⟩
              · simp only [okr, decide_eq_true_eq]; omega
              · simp only [enc, if_neg hr2, if_neg hr1, if_pos hr, Int.toNat_natCast]; rfl
              · simp only [enc, if_neg hr2, if_neg hr1, if_pos hr, List.length_cons, List.length_nil, List.drop_succ_cons, List.drop_zero, List.cons_append, List.nil_append, List.cons.injEq, and_true]
                omega
            · exact .inl rfl
        · split
          · rename_i c2 c3 c4
            cases t with
            | nil => simp at c4
            | cons x1 t =>
            cases t with
            | nil => simp at c4
            | cons x2 t =>
            cases t with
            | nil => simp at c4
            | cons x3 t =>
              simp only [List.all_cons, Bool.and_eq_true] at hb
              obtain ⟨b1, rfl, h1⟩ := byte_of hb.2.1
              obtain ⟨b2, rfl, h2⟩ := byte_of hb.2.2.1
              obtain ⟨b3, rfl, h3⟩ := byte_of hb.2.2.2.1
              simp only [List.getD_cons_zero, List.getD_cons_succ, Int.toNat_natCast] at c4 ⊢
              split
              · rename_i c5
                have hr : ¬ ((b0 % 8 * 262144 + b1 % 64 * 4096 + b2 % 64 * 64 + b3 % 64 : Nat) : Int) < 65536 := by omega
                have hr1 : ¬ ((b0 % 8 * 262144 + b1 % 64 * 4096 + b2 % 64 * 64 + b3 % 64 : Nat) : Int) < 2048 := by omega
                have hr2 : ¬ ((b0 % 8 * 262144 + b1 % 64 * 4096 + b2 % 64 * 64 + b3 % 64 : Nat) : Int) < 128 := by omega
                refine .inr ⟨((b0 % 8 * 262144 + b1 % 64 * 4096 + b2 % 64 * 64 + b3 % 64 : Nat) : Int), ?_, ?_, ?_⟩
                · simp only [okr, decide_eq_true_eq]; omega
                · simp only [enc, if_neg hr2, if_neg hr1, if_neg hr, Int.toNat_natCast]; rfl
                · simp only [enc, if_neg hr2, if_neg hr1, if_neg hr, List.length_cons, List.length_nil, List.drop_succ_cons, List.drop_zero, List.cons_append, List.nil_append, List.cons.injEq, and_true]
                  omega
              · exact .inl rfl
          · exact .inl rfl
theorem okr_1 {r : Int} (h : okr r = true) : ¬ ((r.toNat, (enc r).length).1 = 65533 ∧ (r.toNat, (enc r).length).2 = 1) := by
  simp only [okr, decide_eq_true_eq] at h
  rintro ⟨h1, h2⟩
  simp only at h1 h2
  unfold enc at h2
  rw [if_neg (by omega), if_neg (by omega), if_pos (by omega)] at h2
  simp at h2
theorem enc_ne {r : Int} {t : List Int} : enc r ++ t ≠ [] := fun h => by
  have := (enc_len r).1
  rw [List.append_eq_nil_iff] at h
  rw [h.1] at this
  simp at this
theorem valid8_flat : ∀ {rs : List Int}, okl rs → valid8 (flat rs) = true
  | [], _ => rfl
  | r :: rs, h => by
    obtain ⟨h1, h2⟩ := okl_cons.1 h
    have hb := flat_byte h
    rw [flat_cons] at hb ⊢
    rw [valid8_step _ hb enc_ne, dN_enc h1, if_neg (okr_1 h1), List.drop_left]
    exact valid8_flat h2
theorem valid8_dec : ∀ (n : Nat) {l : List Int}, l.length ≤ n → l.all u8byte = true → valid8 l = true → ∃ rs, okl rs ∧ l = flat rs
  | 0, l, hn, _, _ => ⟨[], okl_nil, List.eq_nil_of_length_eq_zero (by omega)⟩
  | n + 1, l, hn, hb, hv => by
    by_cases hne : l = []
    · exact ⟨[], okl_nil, hne⟩
    · rw [valid8_step l hb hne] at hv
      rcases dN_ok l hb hne with h | ⟨r, h1, h2, h3⟩
      · rw [h] at hv; simp at hv
      · rw [h2, if_neg (okr_1 h1)] at hv
        have hl := enc_len r
        have hlp : 0 < l.length := List.length_pos_iff.2 hne
        obtain ⟨rs, hr1, hr2⟩ := valid8_dec n (l := l.drop (enc r).length) (by rw [List.length_drop]; omega) (drop_byte hb _) hv
        exact ⟨r :: rs, okl_cons.2 ⟨h1, hr1⟩, by rw [flat_cons, ← hr2]; exact h3⟩
theorem valid_of {l : List Int} (hb : l.all u8byte = true) (hv : valid8 l = true) : ∃ rs, okl rs ∧ l = flat rs := valid8_dec l.length (Nat.le_refl _) hb hv
theorem Valid_eq {l : List Int} (hb : l.all u8byte = true) : utf_Valid.f l = some (valid8 l) := by
  unfold utf_Valid.f utf8_Valid.f valid8
  rw [if_pos hb]
  rfl
theorem bytes_wf {l : List Int} (h : ∀ x ∈ l, (Lit.int .u8 x).wf = true) : l.all u8byte = true := by
  rw [List.all_eq_true]
  intro x hx
  have := h x hx
  simp only [u8byte, decide_eq_true_eq]
  simp [Lit.wf, IntKind.min, IntKind.max, IntKind.signed, IntKind.bits] at this
  omega
end Go.Proofs.YtoeknjmdlmhajaaDoor.Pure
