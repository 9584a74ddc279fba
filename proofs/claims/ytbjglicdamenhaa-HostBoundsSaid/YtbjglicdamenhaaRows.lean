/-
  No cell of these rows narrows 'for every input' (looked for: loops, veiled, ifaces, maps, wideKeys, modest, calm, conditions, laid).
  DERIVED. THE GIVEN ROWS OF THIS SEAT. 4 by the template 'for every input the law returns true; each argument reads behind the call as it read before'; 0 by the template 'total and deterministic' (their statements: YtbjglicdamenhaaTotals.lean).
  GIVEN WITH THE SEED: the statements are not yours to turn. If you find one false, say at which input.
  Laid BY PROGRAM, IN A SANDBOX (cutbox-rows.mjs): the forced cells as the released guide's own fill.sh prints them over the translation 823cabac386ce6f6… (all of the seat's roots in one cut). By AI agents, Wed Nov 11 2026. No macro, syntax, notation, axiom, sorry.
-/
import Derived.Test.YtbjglicdamenhaaChecked
import GoSem.Claim
import GoSem.ClaimJoined
import GoSem.ClaimMapViews
import Derived.JoinedTies
import Derived.KernelRfl
namespace Go.Proofs.Ytbjglicdamenhaa
/- THE CELL 'sum', in the pinned program and in every row, IS THE sha256 OF THE DUMP (.gsa) THAT YtbjglicdamenhaaProg.lean LOADS. Nothing in Lean hashes anything: it is a label: what it is worth is what the hold of that sum in a sandbox is worth. -/
noncomputable def Try.pinned : Pinned := { name := "ytbjglicdamenhaa", sum := "823cabac386ce6f69b71c69477c0daf04c088bb1bff7d23cf577a5fed2bec4b2", checked := Try.checked }
namespace Rows
def none {H : Type} : Left H := { results := [], args := [] }

/-- 'avocetlaw16.HostTwice': WHATEVER THE INPUT: true; the input reads as it did. -/
def hostTwiceSpec : ChangeSpec := { name := "hostTwice", fn := fun _ => fun
  | [d1, d2] => { results := [.lit (.bool true)], args := [d1, d2] }
  | _ => none }
def hostTwiceRow : OpenClaim := { program := "ytbjglicdamenhaa", sum := "823cabac386ce6f69b71c69477c0daf04c088bb1bff7d23cf577a5fed2bec4b2", func := "avocet/avocetlaw16.HostTwice", spec := "hostTwice", unfollowed := true, recurses := true, apart := false }
def HostTwiceSaid : Prop := hostTwiceRow.holds Try.pinned (OpenSpec.ofChange hostTwiceSpec)

/-- ITS FALSE NEIGHBOUR: 'it returns false'. Refute it at one input. -/
def hostTwiceWrong : ChangeSpec := { name := "hostTwice", fn := fun _ => fun
  | [d1, d2] => { results := [.lit (.bool false)], args := [d1, d2] }
  | _ => none }
def HostTwiceWrongFalsely : Prop := hostTwiceRow.holds Try.pinned (OpenSpec.ofChange hostTwiceWrong)

/-- 'avocetlaw16.HostPlays': WHATEVER THE INPUT: true; the input reads as it did. -/
def hostPlaysSpec : ChangeSpec := { name := "hostPlays", fn := fun _ => fun
  | [d1, d2, d3, d4] => { results := [.lit (.bool true)], args := [d1, d2, d3, d4] }
  | _ => none }
def hostPlaysRow : OpenClaim := { program := "ytbjglicdamenhaa", sum := "823cabac386ce6f69b71c69477c0daf04c088bb1bff7d23cf577a5fed2bec4b2", func := "avocet/avocetlaw16.HostPlays", spec := "hostPlays", unfollowed := true, recurses := true, apart := false }
def HostPlaysSaid : Prop := hostPlaysRow.holds Try.pinned (OpenSpec.ofChange hostPlaysSpec)

/-- ITS FALSE NEIGHBOUR: 'it returns false'. Refute it at one input. -/
def hostPlaysWrong : ChangeSpec := { name := "hostPlays", fn := fun _ => fun
  | [d1, d2, d3, d4] => { results := [.lit (.bool false)], args := [d1, d2, d3, d4] }
  | _ => none }
def HostPlaysWrongFalsely : Prop := hostPlaysRow.holds Try.pinned (OpenSpec.ofChange hostPlaysWrong)

/-- 'avocetlaw16.HostNotes': WHATEVER THE INPUT: true; the input reads as it did. -/
def hostNotesSpec : ChangeSpec := { name := "hostNotes", fn := fun _ => fun
  | [d1, d2] => { results := [.lit (.bool true)], args := [d1, d2] }
  | _ => none }
def hostNotesRow : OpenClaim := { program := "ytbjglicdamenhaa", sum := "823cabac386ce6f69b71c69477c0daf04c088bb1bff7d23cf577a5fed2bec4b2", func := "avocet/avocetlaw16.HostNotes", spec := "hostNotes", unfollowed := true, recurses := true, apart := false }
def HostNotesSaid : Prop := hostNotesRow.holds Try.pinned (OpenSpec.ofChange hostNotesSpec)

/-- ITS FALSE NEIGHBOUR: 'it returns false'. Refute it at one input. -/
def hostNotesWrong : ChangeSpec := { name := "hostNotes", fn := fun _ => fun
  | [d1, d2] => { results := [.lit (.bool false)], args := [d1, d2] }
  | _ => none }
def HostNotesWrongFalsely : Prop := hostNotesRow.holds Try.pinned (OpenSpec.ofChange hostNotesWrong)

/-- 'avocetlaw16.HostBounds': WHATEVER THE INPUT: true; the input reads as it did. -/
def hostBoundsSpec : ChangeSpec := { name := "hostBounds", fn := fun _ => fun
  | [d] => { results := [.lit (.bool true)], args := [d] }
  | _ => none }
def hostBoundsRow : OpenClaim := { program := "ytbjglicdamenhaa", sum := "823cabac386ce6f69b71c69477c0daf04c088bb1bff7d23cf577a5fed2bec4b2", func := "avocet/avocetlaw16.HostBounds", spec := "hostBounds", unfollowed := true, recurses := true, apart := false }
def HostBoundsSaid : Prop := hostBoundsRow.holds Try.pinned (OpenSpec.ofChange hostBoundsSpec)

/-- ITS FALSE NEIGHBOUR: 'it returns false'. Refute it at one input. -/
def hostBoundsWrong : ChangeSpec := { name := "hostBounds", fn := fun _ => fun
  | [d] => { results := [.lit (.bool false)], args := [d] }
  | _ => none }
def HostBoundsWrongFalsely : Prop := hostBoundsRow.holds Try.pinned (OpenSpec.ofChange hostBoundsWrong)

/- THE SECOND FORM. 'bulk': how many values and letters a reading holds, each counted each time it is reached (what is shared counts as often as it is met; a slice's spare places count too). A statement '..UptoSaid' is the law's where the arguments, and the package variables that the reading takes, are together of bulk at most 1048576: NARROWER than '..Said'. Prove '..Said' where nothing that the law and all that it calls make is longer than what came in: it says more and counts as full. Else prove '..UptoSaid'. A law counts once. -/
mutual
def uptoBulk {H : Type} : DataW H → Nat
  | .lit (.string bytes) => bytes.length + 1
  | .lit _ => 1
  | .nil => 1
  | .ptr d => uptoBulk d + 1
  | .slice elems spare => uptoBulkAll elems + uptoBulkAll spare + 1
  | .agg parts => uptoBulkAll parts + 1
  | .iface _ d => uptoBulk d + 1
  | .map entries => uptoBulkEntries entries + 1
  | .held _ => 1
def uptoBulkAll {H : Type} : List (DataW H) → Nat
  | [] => 0
  | d :: r => uptoBulk d + uptoBulkAll r
def uptoBulkEntries {H : Type} : List (Lit × DataW H) → Nat
  | [] => 0
  | x :: r => uptoBulkEntry x + uptoBulkEntries r
def uptoBulkEntry {H : Type} : Lit × DataW H → Nat
  | (.string bytes, d) => bytes.length + uptoBulk d + 1
  | (_, d) => uptoBulk d + 1
 end
def uptoSmall : (H : Type) → List (DataW H) → Bool := fun _ ds => decide (uptoBulkAll ds ≤ 1048576)
def OpenSpec.upto (s : _root_.Go.ChangeSpec) : _root_.Go.OpenSpec := { _root_.Go.OpenSpec.ofChange s with cond := some uptoSmall }

/-- 'avocetlaw16.HostTwice', WHERE WHAT IT READS IS OF BULK AT MOST 1048576: true; the input reads as it did. -/
def hostTwiceUptoRow : OpenClaim := { program := "ytbjglicdamenhaa", sum := "823cabac386ce6f69b71c69477c0daf04c088bb1bff7d23cf577a5fed2bec4b2", func := "avocet/avocetlaw16.HostTwice", spec := "hostTwice", unfollowed := true, recurses := true, apart := false, narrowed := true }
def HostTwiceUptoSaid : Prop := hostTwiceUptoRow.holds Try.pinned (OpenSpec.upto hostTwiceSpec)

/-- 'avocetlaw16.HostPlays', WHERE WHAT IT READS IS OF BULK AT MOST 1048576: true; the input reads as it did. -/
def hostPlaysUptoRow : OpenClaim := { program := "ytbjglicdamenhaa", sum := "823cabac386ce6f69b71c69477c0daf04c088bb1bff7d23cf577a5fed2bec4b2", func := "avocet/avocetlaw16.HostPlays", spec := "hostPlays", unfollowed := true, recurses := true, apart := false, narrowed := true }
def HostPlaysUptoSaid : Prop := hostPlaysUptoRow.holds Try.pinned (OpenSpec.upto hostPlaysSpec)

/-- 'avocetlaw16.HostNotes', WHERE WHAT IT READS IS OF BULK AT MOST 1048576: true; the input reads as it did. -/
def hostNotesUptoRow : OpenClaim := { program := "ytbjglicdamenhaa", sum := "823cabac386ce6f69b71c69477c0daf04c088bb1bff7d23cf577a5fed2bec4b2", func := "avocet/avocetlaw16.HostNotes", spec := "hostNotes", unfollowed := true, recurses := true, apart := false, narrowed := true }
def HostNotesUptoSaid : Prop := hostNotesUptoRow.holds Try.pinned (OpenSpec.upto hostNotesSpec)

/-- 'avocetlaw16.HostBounds', WHERE WHAT IT READS IS OF BULK AT MOST 1048576: true; the input reads as it did. -/
def hostBoundsUptoRow : OpenClaim := { program := "ytbjglicdamenhaa", sum := "823cabac386ce6f69b71c69477c0daf04c088bb1bff7d23cf577a5fed2bec4b2", func := "avocet/avocetlaw16.HostBounds", spec := "hostBounds", unfollowed := true, recurses := true, apart := false, narrowed := true }
def HostBoundsUptoSaid : Prop := hostBoundsUptoRow.holds Try.pinned (OpenSpec.upto hostBoundsSpec)

end Rows
end Go.Proofs.Ytbjglicdamenhaa
