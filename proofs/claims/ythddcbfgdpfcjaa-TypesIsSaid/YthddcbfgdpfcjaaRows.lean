/-
  No cell of these rows narrows 'for every input' (looked for: loops, veiled, ifaces, maps, wideKeys, modest, calm, conditions, laid).
  DERIVED. THE GIVEN ROWS OF THIS SEAT. 6 by the template 'for every input the law returns true; each argument reads behind the call as it read before'; 0 by the template 'total and deterministic' (their statements: YthddcbfgdpfcjaaTotals.lean).
  GIVEN WITH THE SEED: the statements are not yours to turn. If you find one false, say at which input.
  Laid BY PROGRAM, IN A SANDBOX (cutbox-rows.mjs): the forced cells as the released guide's own fill.sh prints them over the translation 2514a858fc102314… (all of the seat's roots in one cut). By AI agents, Wed Nov 11 2026. No macro, syntax, notation, axiom, sorry.
-/
import Derived.Test.YthddcbfgdpfcjaaChecked
import GoSem.Claim
import GoSem.ClaimJoined
import GoSem.ClaimMapViews
import Derived.JoinedTies
import Derived.KernelRfl
namespace Go.Proofs.Ythddcbfgdpfcjaa
/- THE CELL 'sum', in the pinned program and in every row, IS THE sha256 OF THE DUMP (.gsa) THAT YthddcbfgdpfcjaaProg.lean LOADS. Nothing in Lean hashes anything: it is a label: what it is worth is what the hold of that sum in a sandbox is worth. -/
noncomputable def Try.pinned : Pinned := { name := "ythddcbfgdpfcjaa", sum := "2514a858fc102314559d091b1b5a24c6e766c96589a182a3518e40ca5b161df3", checked := Try.checked }
namespace Rows
def none {H : Type} : Left H := { results := [], args := [] }

/-- 'avocetlaw04.TypesVals': WHATEVER THE INPUT: true; the input reads as it did. -/
def typesValsSpec : ChangeSpec := { name := "typesVals", fn := fun _ => fun
  | [d1, d2] => { results := [.lit (.bool true)], args := [d1, d2] }
  | _ => none }
def typesValsRow : OpenClaim := { program := "ythddcbfgdpfcjaa", sum := "2514a858fc102314559d091b1b5a24c6e766c96589a182a3518e40ca5b161df3", func := "avocet/avocetlaw04.TypesVals", spec := "typesVals", unfollowed := true, recurses := true, apart := false }
def TypesValsSaid : Prop := typesValsRow.holds Try.pinned (OpenSpec.ofChange typesValsSpec)

/-- ITS FALSE NEIGHBOUR: 'it returns false'. Refute it at one input. -/
def typesValsWrong : ChangeSpec := { name := "typesVals", fn := fun _ => fun
  | [d1, d2] => { results := [.lit (.bool false)], args := [d1, d2] }
  | _ => none }
def TypesValsWrongFalsely : Prop := typesValsRow.holds Try.pinned (OpenSpec.ofChange typesValsWrong)

/-- 'avocetlaw04.TypesWithin': WHATEVER THE INPUT: true; the input reads as it did. -/
def typesWithinSpec : ChangeSpec := { name := "typesWithin", fn := fun _ => fun
  | [d1, d2, d3] => { results := [.lit (.bool true)], args := [d1, d2, d3] }
  | _ => none }
def typesWithinRow : OpenClaim := { program := "ythddcbfgdpfcjaa", sum := "2514a858fc102314559d091b1b5a24c6e766c96589a182a3518e40ca5b161df3", func := "avocet/avocetlaw04.TypesWithin", spec := "typesWithin", unfollowed := true, recurses := true, apart := false }
def TypesWithinSaid : Prop := typesWithinRow.holds Try.pinned (OpenSpec.ofChange typesWithinSpec)

/-- ITS FALSE NEIGHBOUR: 'it returns false'. Refute it at one input. -/
def typesWithinWrong : ChangeSpec := { name := "typesWithin", fn := fun _ => fun
  | [d1, d2, d3] => { results := [.lit (.bool false)], args := [d1, d2, d3] }
  | _ => none }
def TypesWithinWrongFalsely : Prop := typesWithinRow.holds Try.pinned (OpenSpec.ofChange typesWithinWrong)

/-- 'avocetlaw04.TypesOne': WHATEVER THE INPUT: true; the input reads as it did. -/
def typesOneSpec : ChangeSpec := { name := "typesOne", fn := fun _ => fun
  | [d1, d2] => { results := [.lit (.bool true)], args := [d1, d2] }
  | _ => none }
def typesOneRow : OpenClaim := { program := "ythddcbfgdpfcjaa", sum := "2514a858fc102314559d091b1b5a24c6e766c96589a182a3518e40ca5b161df3", func := "avocet/avocetlaw04.TypesOne", spec := "typesOne", unfollowed := true, recurses := true, apart := false }
def TypesOneSaid : Prop := typesOneRow.holds Try.pinned (OpenSpec.ofChange typesOneSpec)

/-- ITS FALSE NEIGHBOUR: 'it returns false'. Refute it at one input. -/
def typesOneWrong : ChangeSpec := { name := "typesOne", fn := fun _ => fun
  | [d1, d2] => { results := [.lit (.bool false)], args := [d1, d2] }
  | _ => none }
def TypesOneWrongFalsely : Prop := typesOneRow.holds Try.pinned (OpenSpec.ofChange typesOneWrong)

/-- 'avocetlaw04.TypesTold': WHATEVER THE INPUT: true; the input reads as it did. -/
def typesToldSpec : ChangeSpec := { name := "typesTold", fn := fun _ => fun
  | [d] => { results := [.lit (.bool true)], args := [d] }
  | _ => none }
def typesToldRow : OpenClaim := { program := "ythddcbfgdpfcjaa", sum := "2514a858fc102314559d091b1b5a24c6e766c96589a182a3518e40ca5b161df3", func := "avocet/avocetlaw04.TypesTold", spec := "typesTold", unfollowed := true, recurses := true, apart := false }
def TypesToldSaid : Prop := typesToldRow.holds Try.pinned (OpenSpec.ofChange typesToldSpec)

/-- ITS FALSE NEIGHBOUR: 'it returns false'. Refute it at one input. -/
def typesToldWrong : ChangeSpec := { name := "typesTold", fn := fun _ => fun
  | [d] => { results := [.lit (.bool false)], args := [d] }
  | _ => none }
def TypesToldWrongFalsely : Prop := typesToldRow.holds Try.pinned (OpenSpec.ofChange typesToldWrong)

/-- 'avocetlaw04.TypesBack': WHATEVER THE INPUT: true; the input reads as it did. -/
def typesBackSpec : ChangeSpec := { name := "typesBack", fn := fun _ => fun
  | [d1, d2, d3] => { results := [.lit (.bool true)], args := [d1, d2, d3] }
  | _ => none }
def typesBackRow : OpenClaim := { program := "ythddcbfgdpfcjaa", sum := "2514a858fc102314559d091b1b5a24c6e766c96589a182a3518e40ca5b161df3", func := "avocet/avocetlaw04.TypesBack", spec := "typesBack", unfollowed := true, recurses := true, apart := false }
def TypesBackSaid : Prop := typesBackRow.holds Try.pinned (OpenSpec.ofChange typesBackSpec)

/-- ITS FALSE NEIGHBOUR: 'it returns false'. Refute it at one input. -/
def typesBackWrong : ChangeSpec := { name := "typesBack", fn := fun _ => fun
  | [d1, d2, d3] => { results := [.lit (.bool false)], args := [d1, d2, d3] }
  | _ => none }
def TypesBackWrongFalsely : Prop := typesBackRow.holds Try.pinned (OpenSpec.ofChange typesBackWrong)

/-- 'avocetlaw04.TypesIs': WHATEVER THE INPUT: true; the input reads as it did. -/
def typesIsSpec : ChangeSpec := { name := "typesIs", fn := fun _ => fun
  | [d1, d2, d3, d4, d5, d6] => { results := [.lit (.bool true)], args := [d1, d2, d3, d4, d5, d6] }
  | _ => none }
def typesIsRow : OpenClaim := { program := "ythddcbfgdpfcjaa", sum := "2514a858fc102314559d091b1b5a24c6e766c96589a182a3518e40ca5b161df3", func := "avocet/avocetlaw04.TypesIs", spec := "typesIs", unfollowed := true, recurses := true, apart := false }
def TypesIsSaid : Prop := typesIsRow.holds Try.pinned (OpenSpec.ofChange typesIsSpec)

/-- ITS FALSE NEIGHBOUR: 'it returns false'. Refute it at one input. -/
def typesIsWrong : ChangeSpec := { name := "typesIs", fn := fun _ => fun
  | [d1, d2, d3, d4, d5, d6] => { results := [.lit (.bool false)], args := [d1, d2, d3, d4, d5, d6] }
  | _ => none }
def TypesIsWrongFalsely : Prop := typesIsRow.holds Try.pinned (OpenSpec.ofChange typesIsWrong)

/- THE SECOND FORM. 'bulk': how many values and letters a reading holds, each counted each time it is reached (what is shared counts as often as it is met; a slice's spare places count too). A statement '..UptoSaid' is the law's where the arguments, and the package variables that the reading takes, are together of bulk at most 1048576: NARROWER than '..Said'. Prove '..Said' where nothing that the law and all that it calls make is longer than what came in: it says more and counts as full. Else prove '..UptoSaid'. A law counts once. -/
mutual
def uptoBulk {H : Type} : DataW H → Nat
  | .lit (.string bytes) => bytes.length + 1
  | .lit _ => 1
  | .nil => 1
  | .ptr d => uptoBulk d + 1
  | .slice elems spare => uptoBulkAll elems + uptoBulkAll spare + 1
  | .agg parts => uptoBulkAll parts + 1
  | .iface _ d => uptoBulk d + 1
  | .map entries => uptoBulkEntries entries + 1
  | .held _ => 1
def uptoBulkAll {H : Type} : List (DataW H) → Nat
  | [] => 0
  | d :: r => uptoBulk d + uptoBulkAll r
def uptoBulkEntries {H : Type} : List (Lit × DataW H) → Nat
  | [] => 0
  | x :: r => uptoBulkEntry x + uptoBulkEntries r
def uptoBulkEntry {H : Type} : Lit × DataW H → Nat
  | (.string bytes, d) => bytes.length + uptoBulk d + 1
  | (_, d) => uptoBulk d + 1
 end
def uptoSmall : (H : Type) → List (DataW H) → Bool := fun _ ds => decide (uptoBulkAll ds ≤ 1048576)
def OpenSpec.upto (s : _root_.Go.ChangeSpec) : _root_.Go.OpenSpec := { _root_.Go.OpenSpec.ofChange s with cond := some uptoSmall }

/-- 'avocetlaw04.TypesVals', WHERE WHAT IT READS IS OF BULK AT MOST 1048576: true; the input reads as it did. -/
def typesValsUptoRow : OpenClaim := { program := "ythddcbfgdpfcjaa", sum := "2514a858fc102314559d091b1b5a24c6e766c96589a182a3518e40ca5b161df3", func := "avocet/avocetlaw04.TypesVals", spec := "typesVals", unfollowed := true, recurses := true, apart := false, narrowed := true }
def TypesValsUptoSaid : Prop := typesValsUptoRow.holds Try.pinned (OpenSpec.upto typesValsSpec)

/-- 'avocetlaw04.TypesWithin', WHERE WHAT IT READS IS OF BULK AT MOST 1048576: true; the input reads as it did. -/
def typesWithinUptoRow : OpenClaim := { program := "ythddcbfgdpfcjaa", sum := "2514a858fc102314559d091b1b5a24c6e766c96589a182a3518e40ca5b161df3", func := "avocet/avocetlaw04.TypesWithin", spec := "typesWithin", unfollowed := true, recurses := true, apart := false, narrowed := true }
def TypesWithinUptoSaid : Prop := typesWithinUptoRow.holds Try.pinned (OpenSpec.upto typesWithinSpec)

/-- 'avocetlaw04.TypesOne', WHERE WHAT IT READS IS OF BULK AT MOST 1048576: true; the input reads as it did. -/
def typesOneUptoRow : OpenClaim := { program := "ythddcbfgdpfcjaa", sum := "2514a858fc102314559d091b1b5a24c6e766c96589a182a3518e40ca5b161df3", func := "avocet/avocetlaw04.TypesOne", spec := "typesOne", unfollowed := true, recurses := true, apart := false, narrowed := true }
def TypesOneUptoSaid : Prop := typesOneUptoRow.holds Try.pinned (OpenSpec.upto typesOneSpec)

/-- 'avocetlaw04.TypesTold', WHERE WHAT IT READS IS OF BULK AT MOST 1048576: true; the input reads as it did. -/
def typesToldUptoRow : OpenClaim := { program := "ythddcbfgdpfcjaa", sum := "2514a858fc102314559d091b1b5a24c6e766c96589a182a3518e40ca5b161df3", func := "avocet/avocetlaw04.TypesTold", spec := "typesTold", unfollowed := true, recurses := true, apart := false, narrowed := true }
def TypesToldUptoSaid : Prop := typesToldUptoRow.holds Try.pinned (OpenSpec.upto typesToldSpec)

/-- 'avocetlaw04.TypesBack', WHERE WHAT IT READS IS OF BULK AT MOST 1048576: true; the input reads as it did. -/
def typesBackUptoRow : OpenClaim := { program := "ythddcbfgdpfcjaa", sum := "2514a858fc102314559d091b1b5a24c6e766c96589a182a3518e40ca5b161df3", func := "avocet/avocetlaw04.TypesBack", spec := "typesBack", unfollowed := true, recurses := true, apart := false, narrowed := true }
def TypesBackUptoSaid : Prop := typesBackUptoRow.holds Try.pinned (OpenSpec.upto typesBackSpec)

/-- 'avocetlaw04.TypesIs', WHERE WHAT IT READS IS OF BULK AT MOST 1048576: true; the input reads as it did. -/
def typesIsUptoRow : OpenClaim := { program := "ythddcbfgdpfcjaa", sum := "2514a858fc102314559d091b1b5a24c6e766c96589a182a3518e40ca5b161df3", func := "avocet/avocetlaw04.TypesIs", spec := "typesIs", unfollowed := true, recurses := true, apart := false, narrowed := true }
def TypesIsUptoSaid : Prop := typesIsUptoRow.holds Try.pinned (OpenSpec.upto typesIsSpec)

end Rows
end Go.Proofs.Ythddcbfgdpfcjaa
