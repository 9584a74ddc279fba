-- my words for opening a law's arguments (structs, rows of whole numbers in them) from a row's reading
import Derived.Test.YtbjglicdamenhaaWSized
import Derived.ChangeArms
import Derived.Deep.Slices
import Derived.Lib.SmallJoins
import Derived.Test.YtbjglicdamenhaaWWords
namespace Go.Proofs.Ytbjglicdamenhaa.Own
open Go.ChangeShapes Go.WideShapes Go.RowKit Go.Proofs.YtbjglicdamenhaaW.PrintWords
section
variable {H : Type} {enc : TypeId × Value → H} {P : Program} {w : World} {base : Nat} {held : Bool} {sp : Nat → Bool}
theorem int_of {t : TypeId} {k : IntKind} {n : Nat} {v : Value} {y : DataW H × List MemPlace} (ht : P.underlying t = some (.int k)) (h : DataW.trod enc P w base sp held n t [v] = some y) :
    ∃ a : Int, v = .int k a ∧ (Lit.int k a).wf = true := by
  obtain ⟨a, h1, _, h3⟩ := DataW.trod_int ht h
  exact ⟨a, by simpa using h1, h3⟩
theorem bool_of {t : TypeId} {n : Nat} {v : Value} {y : DataW H × List MemPlace} (ht : P.underlying t = some .bool) (h : DataW.trod enc P w base sp held n t [v] = some y) :
    ∃ a : Bool, v = .bool a := by
  obtain ⟨a, h1, _⟩ := DataW.trod_bool ht h
  exact ⟨a, by simpa using h1⟩
theorem row_of {t e : TypeId} {k : IntKind} {n : Nat} {v : Value} {y : DataW H × List MemPlace} (ht : P.underlying t = some (.slice e)) (he : P.underlying e = some (.int k)) (hc : P.cellsOf e = 1) (h : DataW.trod enc P w base (fun _ => true) held n t [v] = some y) :
    ∃ (A : Option Addr) (c : Nat) (l : List Int), v = .slice A l.length c ∧ Kd.C (Kd.int k) w A l.length l ∧ l.length ≤ c ∧ l.length ≤ maxLen ∧ ∀ x ∈ l, (Lit.int k x).wf = true := by
  have key : ∃ (A : Option Addr) (len c : Nat) (zs : List Int), v = .slice A len c ∧ ((A = none ∧ len = 0 ∧ c = 0 ∧ zs = []) ∨ ∃ x, A = some x ∧ len ≤ c ∧ c ≤ maxLen ∧ zs.length = c ∧ (∀ i, i < zs.length → w.cell? (x.add i) = some (.int k (zs.getD i 0))) ∧ ∀ n ∈ zs, (Lit.int k n).wf = true) := by
    rcases open_ints ht he hc h with ⟨hcs, _⟩ | ⟨x, l, c, zs, hcs, _, hl, hm, hz, _, hcell, hwz⟩
    · exact ⟨none, 0, 0, [], by simpa using hcs, .inl ⟨rfl, rfl, rfl, rfl⟩⟩
    · exact ⟨some x, l, c, zs, by simpa using hcs, .inr ⟨x, rfl, hl, hm, by simpa using hz, hcell, hwz⟩⟩
  obtain ⟨A, len, c, zs, rfl, hk⟩ := key
  obtain ⟨l, rfl, hr, hm, hw, hc'⟩ := ReadsInt.ofRowC hk
  exact ⟨A, c, l, rfl, Kd.C_of_reads (d := (0 : Int)) (h1 := fun _ => rfl) hr, hc', hm, hw⟩
theorem family {α : Type} {Q : Nat → α → Prop} : ∀ (len : Nat), (∀ i, i < len → ∃ x, Q i x) → ∃ l : List α, l.length = len ∧ ∀ (i : Nat) (x : α), l[i]? = some x → Q i x
  | 0, _ => ⟨[], rfl, fun i x h => by simp at h⟩
  | k + 1, hel => by
    obtain ⟨l, hl, hp⟩ := family k (fun i hi => hel i (Nat.lt_succ_of_lt hi))
    obtain ⟨x, hx⟩ := hel k (Nat.lt_succ_self k)
    refine ⟨l ++ [x], by simp [hl], fun i z hz => ?_⟩
    rcases Nat.lt_or_ge i l.length with hi | hi
    · rw [List.getElem?_append_left hi] at hz
      exact hp i z hz
    · have hi' : i = l.length := by
        have := (List.getElem?_eq_some_iff.1 hz).1
        simp at this
        omega
      subst hi'
      simp at hz
      subst hz
      rw [hl]
      exact hx
theorem slice_of {α : Type} {d : Kd α} {Wf : α → Prop} {t e : TypeId} {n : Nat} {v : Value} {y : DataW H × List MemPlace} (ht : P.underlying t = some (.slice e)) (hsz : P.cellsOf e = d.sz) (_hs0 : 0 < d.sz)
    (hd : ∀ (n : Nat) (cs : List Value) (y : DataW H × List MemPlace), DataW.trod enc P w base (fun _ => true) held n e cs = some y → ∃ x, d.K w x cs ∧ Wf x)
    (h : DataW.trod enc P w base (fun _ => true) held n t [v] = some y) :
    ∃ (A : Option Addr) (c : Nat) (l : List α), v = .slice A l.length c ∧ Kd.C d w A l.length l ∧ l.length ≤ c ∧ l.length ≤ maxLen ∧ ∀ x ∈ l, Wf x := by
  rcases Go.Deep.open_slice ht h with ⟨hcs, _⟩ | ⟨a, len, cap, m, n', D, Pl, hcs, _, hl, hm, hmm, _, hx⟩
  · exact ⟨none, 0, [], by simpa using hcs, Kd.C_nil d w, Nat.le_refl _, Nat.zero_le _, fun x hx => by cases hx⟩
  · obtain rfl : m = cap := by simpa using hmm
    have hel : ∀ i, i < len → ∃ x : α, (∃ c : List Value, c.length = d.sz ∧ d.K w x c ∧ ∀ j u, c[j]? = some u → w.cell? (a.add (i * d.sz + j)) = some u) ∧ Wf x := by
      intro i hi
      obtain ⟨cs', h1, h2⟩ := hx i (Nat.lt_of_lt_of_le hi hl)
      obtain ⟨x, hK, hW⟩ := hd _ _ _ h2
      rw [hsz] at h1
      obtain ⟨_, hlen, hc⟩ := World.cells?_some h1
      refine ⟨x, ⟨cs', hlen, hK, fun j u hj => ?_⟩, hW⟩
      have hj' : j < d.sz := by rw [← hlen]; exact (List.getElem?_eq_some_iff.1 hj).1
      rw [← Go.Deep.add_add, hc j hj', hj]
    obtain ⟨l, hll, hp⟩ := family len hel
    subst hll
    have hv : v = .slice (some a) l.length m := by simpa using hcs
    refine ⟨some a, m, l, hv, ⟨rfl, by unfold maxLen at hm; omega, fun _ => ⟨a, rfl, fun j p hj => (hp j p hj).1⟩⟩, hl, by omega, fun x hx => ?_⟩
    obtain ⟨i, hi⟩ := List.mem_iff_getElem?.1 hx
    exact (hp i x hi).2
theorem int_K {t : TypeId} {k : IntKind} {n : Nat} {cs : List Value} {y : DataW H × List MemPlace} (ht : P.underlying t = some (.int k)) (h : DataW.trod enc P w base sp held n t cs = some y) : ∃ x : Int, (Kd.int k).K w x cs ∧ (Lit.int k x).wf = true := by
  obtain ⟨a, h1, _, h3⟩ := DataW.trod_int ht h
  exact ⟨a, h1, h3⟩
theorem bool_K {t : TypeId} {n : Nat} {cs : List Value} {y : DataW H × List MemPlace} (ht : P.underlying t = some .bool) (h : DataW.trod enc P w base sp held n t cs = some y) : ∃ x : Bool, Kd.bool.K w x cs ∧ True := by
  obtain ⟨a, h1, _⟩ := DataW.trod_bool ht h
  exact ⟨a, h1, trivial⟩
theorem string_K {t : TypeId} {n : Nat} {cs : List Value} {y : DataW H × List MemPlace} (ht : P.underlying t = some .string) (h : DataW.trod enc P w base sp held n t cs = some y) : ∃ x : ByteArray, Kd.string.K w x cs ∧ x.size ≤ maxLen := by
  obtain ⟨a, h1, _, h3⟩ := DataW.trod_string ht h
  exact ⟨a, h1, h3⟩
end
end Go.Proofs.Ytbjglicdamenhaa.Own
