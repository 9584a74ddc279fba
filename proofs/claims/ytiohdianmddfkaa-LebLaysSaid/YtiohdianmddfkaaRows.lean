/-
  No cell of these rows narrows 'for every input' (looked for: loops, veiled, ifaces, maps, wideKeys, modest, calm, conditions, laid).
  DERIVED. THE GIVEN ROWS OF THIS SEAT. 7 by the template 'for every input the law returns true; each argument reads behind the call as it read before'; 0 by the template 'total and deterministic' (their statements: YtiohdianmddfkaaTotals.lean).
  GIVEN WITH THE SEED: the statements are not yours to turn. If you find one false, say at which input.
  Laid BY PROGRAM, IN A SANDBOX (cutbox-rows.mjs): the forced cells as the released guide's own fill.sh prints them over the translation caf6d192501ca8c7… (all of the seat's roots in one cut). By AI agents, Wed Nov 11 2026. No macro, syntax, notation, axiom, sorry.
-/
import Derived.Test.YtiohdianmddfkaaChecked
import GoSem.Claim
import GoSem.ClaimJoined
import GoSem.ClaimMapViews
import Derived.JoinedTies
import Derived.KernelRfl
namespace Go.Proofs.Ytiohdianmddfkaa
/- THE CELL 'sum', in the pinned program and in every row, IS THE sha256 OF THE DUMP (.gsa) THAT YtiohdianmddfkaaProg.lean LOADS. Nothing in Lean hashes anything: it is a label: what it is worth is what the hold of that sum in a sandbox is worth. -/
noncomputable def Try.pinned : Pinned := { name := "ytiohdianmddfkaa", sum := "caf6d192501ca8c72121f3fa0ea8a0d16ee90f25ebf5060df7921688f7461f41", checked := Try.checked }
namespace Rows
def none {H : Type} : Left H := { results := [], args := [] }

/-- 'avocetlaw01.LebLays': WHATEVER THE INPUT: true; the input reads as it did. -/
def lebLaysSpec : ChangeSpec := { name := "lebLays", fn := fun _ => fun
  | [d1, d2, d3] => { results := [.lit (.bool true)], args := [d1, d2, d3] }
  | _ => none }
def lebLaysRow : OpenClaim := { program := "ytiohdianmddfkaa", sum := "caf6d192501ca8c72121f3fa0ea8a0d16ee90f25ebf5060df7921688f7461f41", func := "avocet/avocetlaw01.LebLays", spec := "lebLays", apart := false }
def LebLaysSaid : Prop := lebLaysRow.holds Try.pinned (OpenSpec.ofChange lebLaysSpec)

/-- ITS FALSE NEIGHBOUR: 'it returns false'. Refute it at one input. -/
def lebLaysWrong : ChangeSpec := { name := "lebLays", fn := fun _ => fun
  | [d1, d2, d3] => { results := [.lit (.bool false)], args := [d1, d2, d3] }
  | _ => none }
def LebLaysWrongFalsely : Prop := lebLaysRow.holds Try.pinned (OpenSpec.ofChange lebLaysWrong)

/-- 'avocetlaw01.LebLens': WHATEVER THE INPUT: true; the input reads as it did. -/
def lebLensSpec : ChangeSpec := { name := "lebLens", fn := fun _ => fun
  | [d1, d2, d3] => { results := [.lit (.bool true)], args := [d1, d2, d3] }
  | _ => none }
def lebLensRow : OpenClaim := { program := "ytiohdianmddfkaa", sum := "caf6d192501ca8c72121f3fa0ea8a0d16ee90f25ebf5060df7921688f7461f41", func := "avocet/avocetlaw01.LebLens", spec := "lebLens", apart := false }
def LebLensSaid : Prop := lebLensRow.holds Try.pinned (OpenSpec.ofChange lebLensSpec)

/-- ITS FALSE NEIGHBOUR: 'it returns false'. Refute it at one input. -/
def lebLensWrong : ChangeSpec := { name := "lebLens", fn := fun _ => fun
  | [d1, d2, d3] => { results := [.lit (.bool false)], args := [d1, d2, d3] }
  | _ => none }
def LebLensWrongFalsely : Prop := lebLensRow.holds Try.pinned (OpenSpec.ofChange lebLensWrong)

/-- 'avocetlaw01.LebLong': WHATEVER THE INPUT: true; the input reads as it did. -/
def lebLongSpec : ChangeSpec := { name := "lebLong", fn := fun _ => fun
  | [d1, d2] => { results := [.lit (.bool true)], args := [d1, d2] }
  | _ => none }
def lebLongRow : OpenClaim := { program := "ytiohdianmddfkaa", sum := "caf6d192501ca8c72121f3fa0ea8a0d16ee90f25ebf5060df7921688f7461f41", func := "avocet/avocetlaw01.LebLong", spec := "lebLong", unfollowed := true, recurses := true, apart := false }
def LebLongSaid : Prop := lebLongRow.holds Try.pinned (OpenSpec.ofChange lebLongSpec)

/-- ITS FALSE NEIGHBOUR: 'it returns false'. Refute it at one input. -/
def lebLongWrong : ChangeSpec := { name := "lebLong", fn := fun _ => fun
  | [d1, d2] => { results := [.lit (.bool false)], args := [d1, d2] }
  | _ => none }
def LebLongWrongFalsely : Prop := lebLongRow.holds Try.pinned (OpenSpec.ofChange lebLongWrong)

/-- 'avocetlaw01.LebReads': WHATEVER THE INPUT: true; the input reads as it did. -/
def lebReadsSpec : ChangeSpec := { name := "lebReads", fn := fun _ => fun
  | [d1, d2, d3] => { results := [.lit (.bool true)], args := [d1, d2, d3] }
  | _ => none }
def lebReadsRow : OpenClaim := { program := "ytiohdianmddfkaa", sum := "caf6d192501ca8c72121f3fa0ea8a0d16ee90f25ebf5060df7921688f7461f41", func := "avocet/avocetlaw01.LebReads", spec := "lebReads", unfollowed := true, recurses := true, apart := false }
def LebReadsSaid : Prop := lebReadsRow.holds Try.pinned (OpenSpec.ofChange lebReadsSpec)

/-- ITS FALSE NEIGHBOUR: 'it returns false'. Refute it at one input. -/
def lebReadsWrong : ChangeSpec := { name := "lebReads", fn := fun _ => fun
  | [d1, d2, d3] => { results := [.lit (.bool false)], args := [d1, d2, d3] }
  | _ => none }
def LebReadsWrongFalsely : Prop := lebReadsRow.holds Try.pinned (OpenSpec.ofChange lebReadsWrong)

/-- 'avocetlaw01.LebOrder': WHATEVER THE INPUT: true; the input reads as it did. -/
def lebOrderSpec : ChangeSpec := { name := "lebOrder", fn := fun _ => fun
  | [d1, d2] => { results := [.lit (.bool true)], args := [d1, d2] }
  | _ => none }
def lebOrderRow : OpenClaim := { program := "ytiohdianmddfkaa", sum := "caf6d192501ca8c72121f3fa0ea8a0d16ee90f25ebf5060df7921688f7461f41", func := "avocet/avocetlaw01.LebOrder", spec := "lebOrder", unfollowed := true, recurses := true, apart := false }
def LebOrderSaid : Prop := lebOrderRow.holds Try.pinned (OpenSpec.ofChange lebOrderSpec)

/-- ITS FALSE NEIGHBOUR: 'it returns false'. Refute it at one input. -/
def lebOrderWrong : ChangeSpec := { name := "lebOrder", fn := fun _ => fun
  | [d1, d2] => { results := [.lit (.bool false)], args := [d1, d2] }
  | _ => none }
def LebOrderWrongFalsely : Prop := lebOrderRow.holds Try.pinned (OpenSpec.ofChange lebOrderWrong)

/-- 'avocetlaw01.LebWidths': WHATEVER THE INPUT: true; the input reads as it did. -/
def lebWidthsSpec : ChangeSpec := { name := "lebWidths", fn := fun _ => fun
  | [d1, d2, d3] => { results := [.lit (.bool true)], args := [d1, d2, d3] }
  | _ => none }
def lebWidthsRow : OpenClaim := { program := "ytiohdianmddfkaa", sum := "caf6d192501ca8c72121f3fa0ea8a0d16ee90f25ebf5060df7921688f7461f41", func := "avocet/avocetlaw01.LebWidths", spec := "lebWidths", unfollowed := true, recurses := true, apart := false }
def LebWidthsSaid : Prop := lebWidthsRow.holds Try.pinned (OpenSpec.ofChange lebWidthsSpec)

/-- ITS FALSE NEIGHBOUR: 'it returns false'. Refute it at one input. -/
def lebWidthsWrong : ChangeSpec := { name := "lebWidths", fn := fun _ => fun
  | [d1, d2, d3] => { results := [.lit (.bool false)], args := [d1, d2, d3] }
  | _ => none }
def LebWidthsWrongFalsely : Prop := lebWidthsRow.holds Try.pinned (OpenSpec.ofChange lebWidthsWrong)

/-- 'avocetlaw01.LebBack': WHATEVER THE INPUT: true; the input reads as it did. -/
def lebBackSpec : ChangeSpec := { name := "lebBack", fn := fun _ => fun
  | [d1, d2, d3, d4] => { results := [.lit (.bool true)], args := [d1, d2, d3, d4] }
  | _ => none }
def lebBackRow : OpenClaim := { program := "ytiohdianmddfkaa", sum := "caf6d192501ca8c72121f3fa0ea8a0d16ee90f25ebf5060df7921688f7461f41", func := "avocet/avocetlaw01.LebBack", spec := "lebBack", unfollowed := true, recurses := true, apart := false }
def LebBackSaid : Prop := lebBackRow.holds Try.pinned (OpenSpec.ofChange lebBackSpec)

/-- ITS FALSE NEIGHBOUR: 'it returns false'. Refute it at one input. -/
def lebBackWrong : ChangeSpec := { name := "lebBack", fn := fun _ => fun
  | [d1, d2, d3, d4] => { results := [.lit (.bool false)], args := [d1, d2, d3, d4] }
  | _ => none }
def LebBackWrongFalsely : Prop := lebBackRow.holds Try.pinned (OpenSpec.ofChange lebBackWrong)

/- THE SECOND FORM. 'bulk': how many values and letters a reading holds, each counted each time it is reached (what is shared counts as often as it is met; a slice's spare places count too). A statement '..UptoSaid' is the law's where the arguments, and the package variables that the reading takes, are together of bulk at most 1048576: NARROWER than '..Said'. Prove '..Said' where nothing that the law and all that it calls make is longer than what came in: it says more and counts as full. Else prove '..UptoSaid'. A law counts once. -/
mutual
def uptoBulk {H : Type} : DataW H → Nat
  | .lit (.string bytes) => bytes.length + 1
  | .lit _ => 1
  | .nil => 1
  | .ptr d => uptoBulk d + 1
  | .slice elems spare => uptoBulkAll elems + uptoBulkAll spare + 1
  | .agg parts => uptoBulkAll parts + 1
  | .iface _ d => uptoBulk d + 1
  | .map entries => uptoBulkEntries entries + 1
  | .held _ => 1
def uptoBulkAll {H : Type} : List (DataW H) → Nat
  | [] => 0
  | d :: r => uptoBulk d + uptoBulkAll r
def uptoBulkEntries {H : Type} : List (Lit × DataW H) → Nat
  | [] => 0
  | x :: r => uptoBulkEntry x + uptoBulkEntries r
def uptoBulkEntry {H : Type} : Lit × DataW H → Nat
  | (.string bytes, d) => bytes.length + uptoBulk d + 1
  | (_, d) => uptoBulk d + 1
 end
def uptoSmall : (H : Type) → List (DataW H) → Bool := fun _ ds => decide (uptoBulkAll ds ≤ 1048576)
def OpenSpec.upto (s : _root_.Go.ChangeSpec) : _root_.Go.OpenSpec := { _root_.Go.OpenSpec.ofChange s with cond := some uptoSmall }

/-- 'avocetlaw01.LebLays', WHERE WHAT IT READS IS OF BULK AT MOST 1048576: true; the input reads as it did. -/
def lebLaysUptoRow : OpenClaim := { program := "ytiohdianmddfkaa", sum := "caf6d192501ca8c72121f3fa0ea8a0d16ee90f25ebf5060df7921688f7461f41", func := "avocet/avocetlaw01.LebLays", spec := "lebLays", apart := false, narrowed := true }
def LebLaysUptoSaid : Prop := lebLaysUptoRow.holds Try.pinned (OpenSpec.upto lebLaysSpec)

/-- 'avocetlaw01.LebLens', WHERE WHAT IT READS IS OF BULK AT MOST 1048576: true; the input reads as it did. -/
def lebLensUptoRow : OpenClaim := { program := "ytiohdianmddfkaa", sum := "caf6d192501ca8c72121f3fa0ea8a0d16ee90f25ebf5060df7921688f7461f41", func := "avocet/avocetlaw01.LebLens", spec := "lebLens", apart := false, narrowed := true }
def LebLensUptoSaid : Prop := lebLensUptoRow.holds Try.pinned (OpenSpec.upto lebLensSpec)

/-- 'avocetlaw01.LebLong', WHERE WHAT IT READS IS OF BULK AT MOST 1048576: true; the input reads as it did. -/
def lebLongUptoRow : OpenClaim := { program := "ytiohdianmddfkaa", sum := "caf6d192501ca8c72121f3fa0ea8a0d16ee90f25ebf5060df7921688f7461f41", func := "avocet/avocetlaw01.LebLong", spec := "lebLong", unfollowed := true, recurses := true, apart := false, narrowed := true }
def LebLongUptoSaid : Prop := lebLongUptoRow.holds Try.pinned (OpenSpec.upto lebLongSpec)

/-- 'avocetlaw01.LebReads', WHERE WHAT IT READS IS OF BULK AT MOST 1048576: true; the input reads as it did. -/
def lebReadsUptoRow : OpenClaim := { program := "ytiohdianmddfkaa", sum := "caf6d192501ca8c72121f3fa0ea8a0d16ee90f25ebf5060df7921688f7461f41", func := "avocet/avocetlaw01.LebReads", spec := "lebReads", unfollowed := true, recurses := true, apart := false, narrowed := true }
def LebReadsUptoSaid : Prop := lebReadsUptoRow.holds Try.pinned (OpenSpec.upto lebReadsSpec)

/-- 'avocetlaw01.LebOrder', WHERE WHAT IT READS IS OF BULK AT MOST 1048576: true; the input reads as it did. -/
def lebOrderUptoRow : OpenClaim := { program := "ytiohdianmddfkaa", sum := "caf6d192501ca8c72121f3fa0ea8a0d16ee90f25ebf5060df7921688f7461f41", func := "avocet/avocetlaw01.LebOrder", spec := "lebOrder", unfollowed := true, recurses := true, apart := false, narrowed := true }
def LebOrderUptoSaid : Prop := lebOrderUptoRow.holds Try.pinned (OpenSpec.upto lebOrderSpec)

/-- 'avocetlaw01.LebWidths', WHERE WHAT IT READS IS OF BULK AT MOST 1048576: true; the input reads as it did. -/
def lebWidthsUptoRow : OpenClaim := { program := "ytiohdianmddfkaa", sum := "caf6d192501ca8c72121f3fa0ea8a0d16ee90f25ebf5060df7921688f7461f41", func := "avocet/avocetlaw01.LebWidths", spec := "lebWidths", unfollowed := true, recurses := true, apart := false, narrowed := true }
def LebWidthsUptoSaid : Prop := lebWidthsUptoRow.holds Try.pinned (OpenSpec.upto lebWidthsSpec)

/-- 'avocetlaw01.LebBack', WHERE WHAT IT READS IS OF BULK AT MOST 1048576: true; the input reads as it did. -/
def lebBackUptoRow : OpenClaim := { program := "ytiohdianmddfkaa", sum := "caf6d192501ca8c72121f3fa0ea8a0d16ee90f25ebf5060df7921688f7461f41", func := "avocet/avocetlaw01.LebBack", spec := "lebBack", unfollowed := true, recurses := true, apart := false, narrowed := true }
def LebBackUptoSaid : Prop := lebBackUptoRow.holds Try.pinned (OpenSpec.upto lebBackSpec)

end Rows
end Go.Proofs.Ytiohdianmddfkaa
