-- my words for opening a law's arguments (structs, rows of whole numbers in them) from a row's reading
import Derived.Test.YthddcbfgdpfcjaaWSized
import Derived.ChangeArms
import Derived.Lib.SmallJoins
import Derived.Test.YthddcbfgdpfcjaaWWords
namespace Go.Proofs.Ythddcbfgdpfcjaa.Own
open Go.ChangeShapes Go.WideShapes Go.RowKit Go.Proofs.YthddcbfgdpfcjaaW.PrintWords
section
variable {H : Type} {enc : TypeId × Value → H} {P : Program} {w : World} {base : Nat} {held : Bool} {sp : Nat → Bool}
theorem int_of {t : TypeId} {k : IntKind} {n : Nat} {v : Value} {y : DataW H × List MemPlace} (ht : P.underlying t = some (.int k)) (h : DataW.trod enc P w base sp held n t [v] = some y) :
    ∃ a : Int, v = .int k a ∧ (Lit.int k a).wf = true := by
  obtain ⟨a, h1, _, h3⟩ := DataW.trod_int ht h
  exact ⟨a, by simpa using h1, h3⟩
theorem bool_of {t : TypeId} {n : Nat} {v : Value} {y : DataW H × List MemPlace} (ht : P.underlying t = some .bool) (h : DataW.trod enc P w base sp held n t [v] = some y) :
    ∃ a : Bool, v = .bool a := by
  obtain ⟨a, h1, _⟩ := DataW.trod_bool ht h
  exact ⟨a, by simpa using h1⟩
theorem row_of {t e : TypeId} {k : IntKind} {n : Nat} {v : Value} {y : DataW H × List MemPlace} (ht : P.underlying t = some (.slice e)) (he : P.underlying e = some (.int k)) (hc : P.cellsOf e = 1) (h : DataW.trod enc P w base (fun _ => true) held n t [v] = some y) :
    ∃ (A : Option Addr) (c : Nat) (l : List Int), v = .slice A l.length c ∧ Kd.C (Kd.int k) w A l.length l ∧ l.length ≤ c ∧ l.length ≤ maxLen ∧ ∀ x ∈ l, (Lit.int k x).wf = true := by
  have key : ∃ (A : Option Addr) (len c : Nat) (zs : List Int), v = .slice A len c ∧ ((A = none ∧ len = 0 ∧ c = 0 ∧ zs = []) ∨ ∃ x, A = some x ∧ len ≤ c ∧ c ≤ maxLen ∧ zs.length = c ∧ (∀ i, i < zs.length → w.cell? (x.add i) = some (.int k (zs.getD i 0))) ∧ ∀ n ∈ zs, (Lit.int k n).wf = true) := by
    rcases open_ints ht he hc h with ⟨hcs, _⟩ | ⟨x, l, c, zs, hcs, _, hl, hm, hz, _, hcell, hwz⟩
    · exact ⟨none, 0, 0, [], by simpa using hcs, .inl ⟨rfl, rfl, rfl, rfl⟩⟩
    · exact ⟨some x, l, c, zs, by simpa using hcs, .inr ⟨x, rfl, hl, hm, by simpa using hz, hcell, hwz⟩⟩
  obtain ⟨A, len, c, zs, rfl, hk⟩ := key
  obtain ⟨l, rfl, hr, hm, hw, hc'⟩ := ReadsInt.ofRowC hk
  exact ⟨A, c, l, rfl, Kd.C_of_reads (d := (0 : Int)) (h1 := fun _ => rfl) hr, hc', hm, hw⟩
end
end Go.Proofs.Ythddcbfgdpfcjaa.Own
