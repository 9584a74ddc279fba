/- A memory's bytes as numbers: little-endian. -/
import Derived.Test.YtbjglicdamenhaaWWords
namespace Go.Proofs.Ytbjglicdamenhaa.G
open Go.RowKit Go.Proofs.YtbjglicdamenhaaW.PrintWords
set_option linter.unusedVariables false
/-- The lowest n bytes of v. -/
def le : Nat → Nat → List Int
  | 0, _ => []
  | n + 1, v => ((v % 256 : Nat) : Int) :: le n (v / 256)
/-- The number of bytes. -/
def ev : List Int → Int
  | [] => 0
  | c :: l => c + 256 * ev l
def Oct (l : List Int) : Prop := ∀ c ∈ l, 0 ≤ c ∧ c < 256
theorem le_length : ∀ (n v : Nat), (le n v).length = n
  | 0, _ => rfl
  | n + 1, v => by simp [le, le_length n]
theorem le_oct : ∀ (n v : Nat), Oct (le n v)
  | 0, _ => fun c h => by simp [le] at h
  | n + 1, v => fun c h => by
    rcases List.mem_cons.1 h with rfl | h
    · omega
    · exact le_oct n _ c h
theorem ev_le : ∀ (n v : Nat), ev (le n v) = ((v % 256 ^ n : Nat) : Int)
  | 0, v => by simp [le, ev, Nat.mod_one]
  | n + 1, v => by
    have h := ev_le n (v / 256)
    simp only [le, ev]
    rw [h, Nat.pow_succ, Nat.mul_comm (256 ^ n) 256, Nat.mod_mul]
    omega
theorem le_snoc : ∀ (n v : Nat), le (n + 1) v = le n v ++ [((v / 256 ^ n % 256 : Nat) : Int)]
  | 0, v => by simp [le]
  | n + 1, v => by
    rw [le, le_snoc n (v / 256), le, List.cons_append, Nat.div_div_eq_div_mul, Nat.pow_succ, Nat.mul_comm 256]
theorem ev_snoc (c : Int) : ∀ l : List Int, ev (l ++ [c]) = ev l + 256 ^ l.length * c
  | [] => by simp [ev]
  | x :: l => by
    rw [List.cons_append, ev, ev_snoc c l, ev, List.length_cons, Int.pow_succ, Int.mul_add, Int.mul_comm (256 ^ l.length) 256, Int.mul_assoc, Int.add_assoc]
theorem ev_nonneg : ∀ {l : List Int}, Oct l → 0 ≤ ev l
  | [], _ => Int.le_refl _
  | c :: l, h => by
    have := ev_nonneg (l := l) (fun x hx => h x (List.mem_cons_of_mem _ hx))
    have := h c List.mem_cons_self
    simp only [ev]
    omega
theorem ev_lt : ∀ {l : List Int}, Oct l → ev l < 256 ^ l.length
  | [], _ => by simp [ev]
  | c :: l, h => by
    have := ev_lt (l := l) (fun x hx => h x (List.mem_cons_of_mem _ hx))
    have := h c List.mem_cons_self
    simp only [ev, List.length_cons, Int.pow_succ]
    omega
/-- Bytes laid at a place. -/
def splice (b : List Int) (at_ : Nat) (l : List Int) : List Int := b.take at_ ++ l ++ b.drop (at_ + l.length)
theorem splice_length {b l : List Int} {a : Nat} (h : a + l.length ≤ b.length) : (splice b a l).length = b.length := by
  simp [splice]; omega
theorem splice_nil (b : List Int) (a : Nat) : splice b a [] = b := by simp [splice]
theorem splice_snoc {b l : List Int} {a : Nat} (c : Int) (h : a + l.length < b.length) : (splice b a l).set (a + l.length) c = splice b a (l ++ [c]) := by
  unfold splice
  have h1 : (b.take a ++ l).length = a + l.length := by simp; omega
  rw [List.set_append_right _ _ (by omega), h1, Nat.sub_self]
  cases hd : b.drop (a + l.length) with
  | nil => rw [List.drop_eq_nil_iff] at hd; omega
  | cons x t =>
    have ht : t = b.drop (a + l.length + 1) := by
      have := congrArg (List.drop 1) hd
      simpa [List.drop_drop] using this.symm
    rw [List.set_cons_zero, ht]
    simp [Nat.add_assoc]
theorem splice_oct {b l : List Int} {a : Nat} (hb : Oct b) (hl : Oct l) : Oct (splice b a l) := by
  intro c hc
  simp only [splice, List.mem_append] at hc
  rcases hc with (hc | hc) | hc
  · exact hb c (List.mem_of_mem_take hc)
  · exact hl c hc
  · exact hb c (List.mem_of_mem_drop hc)
/-- n bytes from a place on. -/
def seg (b : List Int) (a n : Nat) : List Int := (b.drop a).take n
theorem seg_length {b : List Int} {a n : Nat} (h : a + n ≤ b.length) : (seg b a n).length = n := by simp [seg]; omega
theorem seg_oct {b : List Int} (hb : Oct b) (a n : Nat) : Oct (seg b a n) := fun c hc => hb c (List.mem_of_mem_drop (List.mem_of_mem_take hc))
theorem seg_splice {b l : List Int} {a : Nat} (h : a + l.length ≤ b.length) : seg (splice b a l) a l.length = l := by
  unfold seg splice
  rw [List.append_assoc, List.drop_append_of_le_length (by simp; omega), List.drop_of_length_le (by simp; omega), List.nil_append, List.take_append_of_le_length (Nat.le_refl _), List.take_of_length_le (Nat.le_refl _)]
theorem seg_snoc {b : List Int} {a n : Nat} (h : a + n < b.length) : seg b a (n + 1) = seg b a n ++ [b[a + n]] := by
  unfold seg
  rw [List.take_succ_eq_append_getElem (by simp; omega)]
  simp
theorem seg_take {b : List Int} {a n k : Nat} (h : k ≤ n) : (seg b a n).take k = seg b a k := by simp [seg, List.take_take, Nat.min_eq_left h]
end Go.Proofs.Ytbjglicdamenhaa.G
