/- A memory's Sum tells one byte's change. -/
import Derived.Test.YtffoolhfjomhhaaDoorMemA
namespace Go.Proofs.YtffoolhfjomhhaaDoor.G
open Go.RowKit Go.Proofs.YtffoolhfjomhhaaDoorW.PrintWords
set_option linter.unusedVariables false
def stN (s c : Nat) : Nat := ((s ^^^ c) * 1099511628211) % 18446744073709551616
theorem mul_inj {a b : Nat} (ha : a < 18446744073709551616) (hb : b < 18446744073709551616) (h : a * 1099511628211 % 18446744073709551616 = b * 1099511628211 % 18446744073709551616) : a = b := by
  have e (x : Nat) (hx : x < 18446744073709551616) : (x * 1099511628211 % 18446744073709551616) * 14886173955864302971 % 18446744073709551616 = x := by
    rw [Nat.mod_mul_mod, Nat.mul_assoc, Nat.mul_mod, show (1099511628211 * 14886173955864302971) % 18446744073709551616 = 1 from by decide, Nat.mul_one, Nat.mod_mod, Nat.mod_eq_of_lt hx]
  rw [← e a ha, ← e b hb, h]
theorem xor_lt {s c : Nat} (hs : s < 18446744073709551616) (hc : c < 18446744073709551616) : s ^^^ c < 18446744073709551616 := Nat.xor_lt_two_pow (n := 64) hs hc
theorem xor_left_inj_ {a b c : Nat} (h : a ^^^ c = b ^^^ c) : a = b := by
  have := congrArg (fun x => x ^^^ c) h
  simpa [Nat.xor_assoc] using this
theorem stN_lt (s c : Nat) : stN s c < 18446744073709551616 := Nat.mod_lt _ (by decide)
theorem stN_inj {s t c : Nat} (hs : s < 18446744073709551616) (ht : t < 18446744073709551616) (hc : c < 18446744073709551616) (h : stN s c = stN t c) : s = t :=
  xor_left_inj_ (mul_inj (xor_lt hs hc) (xor_lt ht hc) h)
theorem stN_inj_r {s c d : Nat} (hs : s < 18446744073709551616) (hc : c < 18446744073709551616) (hd : d < 18446744073709551616) (h : stN s c = stN s d) : c = d := by
  have := mul_inj (xor_lt hs hc) (xor_lt hs hd) h
  rw [Nat.xor_comm s c, Nat.xor_comm s d] at this
  exact xor_left_inj_ this
theorem fold_lt : ∀ (l : List Nat) (s : Nat), s < 18446744073709551616 → l.foldl stN s < 18446744073709551616
  | [], _, h => h
  | c :: l, s, _ => fold_lt l _ (stN_lt s c)
theorem fold_inj : ∀ (l : List Nat) {s t : Nat}, (∀ c ∈ l, c < 18446744073709551616) → s < 18446744073709551616 → t < 18446744073709551616 → l.foldl stN s = l.foldl stN t → s = t
  | [], _, _, _, _, _, h => h
  | c :: l, s, t, hl, hs, ht, h => stN_inj hs ht (hl c List.mem_cons_self) (fold_inj l (fun x hx => hl x (List.mem_cons_of_mem _ hx)) (stN_lt _ _) (stN_lt _ _) h)
def sumN (b : List Int) : Nat := (b.map Int.toNat).foldl stN 14695981039346656037
theorem mSum_fold : ∀ (b : List Int) (s : Nat), Oct b → s < 18446744073709551616 → b.foldl (fun s c => (IntKind.u64.wrap (bits .xor .u64 s c * 1099511628211))) (s : Int) = (((b.map Int.toNat).foldl stN s : Nat) : Int)
  | [], s, _, _ => rfl
  | c :: b, s, h, hs => by
    have hc := h c List.mem_cons_self
    obtain ⟨n, rfl⟩ := Int.eq_ofNat_of_zero_le hc.1
    have e : IntKind.u64.wrap (bits .xor .u64 (s : Int) (n : Int) * 1099511628211) = ((stN s n : Nat) : Int) := by
      rw [xor_u64_nat s n hs (by omega), wrap_u64_]
      unfold stN
      omega
    simp only [List.foldl_cons, List.map_cons, Int.toNat_natCast]
    rw [e]
    exact mSum_fold b _ (fun x hx => h x (List.mem_cons_of_mem _ hx)) (stN_lt _ _)
theorem mSum_eq {b : List Int} (h : Oct b) : mSum b = (sumN b : Int) := mSum_fold b 14695981039346656037 h (by decide)
theorem mSum_set {a e : List Int} {x y : Int} (h : Oct (a ++ x :: e)) (h' : Oct (a ++ y :: e)) : (mSum (a ++ x :: e) = mSum (a ++ y :: e)) ↔ x = y := by
  constructor
  · intro hh
    rw [mSum_eq h, mSum_eq h'] at hh
    have hh : sumN (a ++ x :: e) = sumN (a ++ y :: e) := by omega
    have hx := h x (by simp)
    have hy := h' y (by simp)
    unfold sumN at hh
    simp only [List.map_append, List.map_cons, List.foldl_append, List.foldl_cons] at hh
    have hs := fold_lt (a.map Int.toNat) 14695981039346656037 (by decide)
    have h2 := fold_inj _ (fun c hc => by
      obtain ⟨z, hz, rfl⟩ := List.mem_map.1 hc
      have := h z (by simp [hz])
      omega) (stN_lt _ _) (stN_lt _ _) hh
    have h3 := stN_inj_r hs (by omega) (by omega) h2
    omega
  · rintro rfl
    rfl
theorem splice_one {b : List Int} {k : Nat} (c : Int) (h : k < b.length) : splice b k [c] = b.take k ++ c :: b.drop (k + 1) := by
  simp [splice]
theorem self_cut {b : List Int} {k : Nat} (h : k < b.length) : b = b.take k ++ b[k] :: b.drop (k + 1) := by
  rw [List.getElem_cons_drop, List.take_append_drop]
theorem mSum_put {b : List Int} {k : Nat} {c : Int} (hb : Oct b) (hc : 0 ≤ c ∧ c < 256) (h : k < b.length) : (mSum (splice b k [c]) = mSum b) ↔ b[k] = c := by
  have h1 : Oct (splice b k [c]) := splice_oct hb (fun x hx => by rw [List.mem_singleton.1 hx]; exact hc)
  rw [splice_one c h] at h1
  have h2 : Oct (b.take k ++ b[k] :: b.drop (k + 1)) := by rw [← self_cut h]; exact hb
  have h3 := mSum_set h1 h2
  rw [← self_cut h] at h3
  rw [splice_one c h, h3]
  exact eq_comm
end Go.Proofs.YtffoolhfjomhhaaDoor.G
