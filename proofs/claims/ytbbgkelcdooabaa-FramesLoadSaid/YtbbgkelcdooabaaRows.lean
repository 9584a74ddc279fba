/-
  No cell of these rows narrows 'for every input' (looked for: loops, veiled, ifaces, maps, wideKeys, modest, calm, conditions, laid).
  DERIVED. THE GIVEN ROWS OF THIS SEAT. 6 by the template 'for every input the law returns true; each argument reads behind the call as it read before'; 0 by the template 'total and deterministic' (their statements: YtbbgkelcdooabaaTotals.lean).
  GIVEN WITH THE SEED: the statements are not yours to turn. If you find one false, say at which input.
  Laid BY PROGRAM, IN A SANDBOX (cutbox-rows.mjs): the forced cells as the released guide's own fill.sh prints them over the translation 075b3f5716dc5b68… (all of the seat's roots in one cut). By AI agents, Wed Nov 11 2026. No macro, syntax, notation, axiom, sorry.
-/
import Derived.Test.YtbbgkelcdooabaaChecked
import GoSem.Claim
import GoSem.ClaimJoined
import GoSem.ClaimMapViews
import Derived.JoinedTies
import Derived.KernelRfl
namespace Go.Proofs.Ytbbgkelcdooabaa
/- THE CELL 'sum', in the pinned program and in every row, IS THE sha256 OF THE DUMP (.gsa) THAT YtbbgkelcdooabaaProg.lean LOADS. Nothing in Lean hashes anything: it is a label: what it is worth is what the hold of that sum in a sandbox is worth. -/
noncomputable def Try.pinned : Pinned := { name := "ytbbgkelcdooabaa", sum := "075b3f5716dc5b68866aaf45bb2ec35033fc5b783a9d7ab771c6bd84e5244016", checked := Try.checked }
namespace Rows
def none {H : Type} : Left H := { results := [], args := [] }

/-- 'avocetlaw17.FramesRoom': WHATEVER THE INPUT: true; the input reads as it did. -/
def framesRoomSpec : ChangeSpec := { name := "framesRoom", fn := fun _ => fun
  | [d1, d2] => { results := [.lit (.bool true)], args := [d1, d2] }
  | _ => none }
def framesRoomRow : OpenClaim := { program := "ytbbgkelcdooabaa", sum := "075b3f5716dc5b68866aaf45bb2ec35033fc5b783a9d7ab771c6bd84e5244016", func := "avocet/avocetlaw17.FramesRoom", spec := "framesRoom", apart := false }
def FramesRoomSaid : Prop := framesRoomRow.holds Try.pinned (OpenSpec.ofChange framesRoomSpec)

/-- ITS FALSE NEIGHBOUR: 'it returns false'. Refute it at one input. -/
def framesRoomWrong : ChangeSpec := { name := "framesRoom", fn := fun _ => fun
  | [d1, d2] => { results := [.lit (.bool false)], args := [d1, d2] }
  | _ => none }
def FramesRoomWrongFalsely : Prop := framesRoomRow.holds Try.pinned (OpenSpec.ofChange framesRoomWrong)

/-- 'avocetlaw17.FramesLocals': WHATEVER THE INPUT: true; the input reads as it did. -/
def framesLocalsSpec : ChangeSpec := { name := "framesLocals", fn := fun _ => fun
  | [d1, d2, d3, d4] => { results := [.lit (.bool true)], args := [d1, d2, d3, d4] }
  | _ => none }
def framesLocalsRow : OpenClaim := { program := "ytbbgkelcdooabaa", sum := "075b3f5716dc5b68866aaf45bb2ec35033fc5b783a9d7ab771c6bd84e5244016", func := "avocet/avocetlaw17.FramesLocals", spec := "framesLocals", apart := false }
def FramesLocalsSaid : Prop := framesLocalsRow.holds Try.pinned (OpenSpec.ofChange framesLocalsSpec)

/-- ITS FALSE NEIGHBOUR: 'it returns false'. Refute it at one input. -/
def framesLocalsWrong : ChangeSpec := { name := "framesLocals", fn := fun _ => fun
  | [d1, d2, d3, d4] => { results := [.lit (.bool false)], args := [d1, d2, d3, d4] }
  | _ => none }
def FramesLocalsWrongFalsely : Prop := framesLocalsRow.holds Try.pinned (OpenSpec.ofChange framesLocalsWrong)

/-- 'avocetlaw17.FramesKeep': WHATEVER THE INPUT: true; the input reads as it did. -/
def framesKeepSpec : ChangeSpec := { name := "framesKeep", fn := fun _ => fun
  | [d1, d2, d3] => { results := [.lit (.bool true)], args := [d1, d2, d3] }
  | _ => none }
def framesKeepRow : OpenClaim := { program := "ytbbgkelcdooabaa", sum := "075b3f5716dc5b68866aaf45bb2ec35033fc5b783a9d7ab771c6bd84e5244016", func := "avocet/avocetlaw17.FramesKeep", spec := "framesKeep", apart := false }
def FramesKeepSaid : Prop := framesKeepRow.holds Try.pinned (OpenSpec.ofChange framesKeepSpec)

/-- ITS FALSE NEIGHBOUR: 'it returns false'. Refute it at one input. -/
def framesKeepWrong : ChangeSpec := { name := "framesKeep", fn := fun _ => fun
  | [d1, d2, d3] => { results := [.lit (.bool false)], args := [d1, d2, d3] }
  | _ => none }
def FramesKeepWrongFalsely : Prop := framesKeepRow.holds Try.pinned (OpenSpec.ofChange framesKeepWrong)

/-- 'avocetlaw17.FramesPlay': WHATEVER THE INPUT: true; the input reads as it did. -/
def framesPlaySpec : ChangeSpec := { name := "framesPlay", fn := fun _ => fun
  | [d1, d2] => { results := [.lit (.bool true)], args := [d1, d2] }
  | _ => none }
def framesPlayRow : OpenClaim := { program := "ytbbgkelcdooabaa", sum := "075b3f5716dc5b68866aaf45bb2ec35033fc5b783a9d7ab771c6bd84e5244016", func := "avocet/avocetlaw17.FramesPlay", spec := "framesPlay", apart := false }
def FramesPlaySaid : Prop := framesPlayRow.holds Try.pinned (OpenSpec.ofChange framesPlaySpec)

/-- ITS FALSE NEIGHBOUR: 'it returns false'. Refute it at one input. -/
def framesPlayWrong : ChangeSpec := { name := "framesPlay", fn := fun _ => fun
  | [d1, d2] => { results := [.lit (.bool false)], args := [d1, d2] }
  | _ => none }
def FramesPlayWrongFalsely : Prop := framesPlayRow.holds Try.pinned (OpenSpec.ofChange framesPlayWrong)

/-- 'avocetlaw17.FramesBack': WHATEVER THE INPUT: true; the input reads as it did. -/
def framesBackSpec : ChangeSpec := { name := "framesBack", fn := fun _ => fun
  | [d1, d2] => { results := [.lit (.bool true)], args := [d1, d2] }
  | _ => none }
def framesBackRow : OpenClaim := { program := "ytbbgkelcdooabaa", sum := "075b3f5716dc5b68866aaf45bb2ec35033fc5b783a9d7ab771c6bd84e5244016", func := "avocet/avocetlaw17.FramesBack", spec := "framesBack", apart := false }
def FramesBackSaid : Prop := framesBackRow.holds Try.pinned (OpenSpec.ofChange framesBackSpec)

/-- ITS FALSE NEIGHBOUR: 'it returns false'. Refute it at one input. -/
def framesBackWrong : ChangeSpec := { name := "framesBack", fn := fun _ => fun
  | [d1, d2] => { results := [.lit (.bool false)], args := [d1, d2] }
  | _ => none }
def FramesBackWrongFalsely : Prop := framesBackRow.holds Try.pinned (OpenSpec.ofChange framesBackWrong)

/-- 'avocetlaw17.FramesLoad': WHATEVER THE INPUT: true; the input reads as it did. -/
def framesLoadSpec : ChangeSpec := { name := "framesLoad", fn := fun _ => fun
  | [d1, d2, d3, d4] => { results := [.lit (.bool true)], args := [d1, d2, d3, d4] }
  | _ => none }
def framesLoadRow : OpenClaim := { program := "ytbbgkelcdooabaa", sum := "075b3f5716dc5b68866aaf45bb2ec35033fc5b783a9d7ab771c6bd84e5244016", func := "avocet/avocetlaw17.FramesLoad", spec := "framesLoad", apart := false }
def FramesLoadSaid : Prop := framesLoadRow.holds Try.pinned (OpenSpec.ofChange framesLoadSpec)

/-- ITS FALSE NEIGHBOUR: 'it returns false'. Refute it at one input. -/
def framesLoadWrong : ChangeSpec := { name := "framesLoad", fn := fun _ => fun
  | [d1, d2, d3, d4] => { results := [.lit (.bool false)], args := [d1, d2, d3, d4] }
  | _ => none }
def FramesLoadWrongFalsely : Prop := framesLoadRow.holds Try.pinned (OpenSpec.ofChange framesLoadWrong)

/- THE SECOND FORM. 'bulk': how many values and letters a reading holds, each counted each time it is reached (what is shared counts as often as it is met; a slice's spare places count too). A statement '..UptoSaid' is the law's where the arguments, and the package variables that the reading takes, are together of bulk at most 1048576: NARROWER than '..Said'. Prove '..Said' where nothing that the law and all that it calls make is longer than what came in: it says more and counts as full. Else prove '..UptoSaid'. A law counts once. -/
mutual
def uptoBulk {H : Type} : DataW H → Nat
  | .lit (.string bytes) => bytes.length + 1
  | .lit _ => 1
  | .nil => 1
  | .ptr d => uptoBulk d + 1
  | .slice elems spare => uptoBulkAll elems + uptoBulkAll spare + 1
  | .agg parts => uptoBulkAll parts + 1
  | .iface _ d => uptoBulk d + 1
  | .map entries => uptoBulkEntries entries + 1
  | .held _ => 1
def uptoBulkAll {H : Type} : List (DataW H) → Nat
  | [] => 0
  | d :: r => uptoBulk d + uptoBulkAll r
def uptoBulkEntries {H : Type} : List (Lit × DataW H) → Nat
  | [] => 0
  | x :: r => uptoBulkEntry x + uptoBulkEntries r
def uptoBulkEntry {H : Type} : Lit × DataW H → Nat
  | (.string bytes, d) => bytes.length + uptoBulk d + 1
  | (_, d) => uptoBulk d + 1
 end
def uptoSmall : (H : Type) → List (DataW H) → Bool := fun _ ds => decide (uptoBulkAll ds ≤ 1048576)
def OpenSpec.upto (s : _root_.Go.ChangeSpec) : _root_.Go.OpenSpec := { _root_.Go.OpenSpec.ofChange s with cond := some uptoSmall }

/-- 'avocetlaw17.FramesRoom', WHERE WHAT IT READS IS OF BULK AT MOST 1048576: true; the input reads as it did. -/
def framesRoomUptoRow : OpenClaim := { program := "ytbbgkelcdooabaa", sum := "075b3f5716dc5b68866aaf45bb2ec35033fc5b783a9d7ab771c6bd84e5244016", func := "avocet/avocetlaw17.FramesRoom", spec := "framesRoom", apart := false, narrowed := true }
def FramesRoomUptoSaid : Prop := framesRoomUptoRow.holds Try.pinned (OpenSpec.upto framesRoomSpec)

/-- 'avocetlaw17.FramesLocals', WHERE WHAT IT READS IS OF BULK AT MOST 1048576: true; the input reads as it did. -/
def framesLocalsUptoRow : OpenClaim := { program := "ytbbgkelcdooabaa", sum := "075b3f5716dc5b68866aaf45bb2ec35033fc5b783a9d7ab771c6bd84e5244016", func := "avocet/avocetlaw17.FramesLocals", spec := "framesLocals", apart := false, narrowed := true }
def FramesLocalsUptoSaid : Prop := framesLocalsUptoRow.holds Try.pinned (OpenSpec.upto framesLocalsSpec)

/-- 'avocetlaw17.FramesKeep', WHERE WHAT IT READS IS OF BULK AT MOST 1048576: true; the input reads as it did. -/
def framesKeepUptoRow : OpenClaim := { program := "ytbbgkelcdooabaa", sum := "075b3f5716dc5b68866aaf45bb2ec35033fc5b783a9d7ab771c6bd84e5244016", func := "avocet/avocetlaw17.FramesKeep", spec := "framesKeep", apart := false, narrowed := true }
def FramesKeepUptoSaid : Prop := framesKeepUptoRow.holds Try.pinned (OpenSpec.upto framesKeepSpec)

/-- 'avocetlaw17.FramesPlay', WHERE WHAT IT READS IS OF BULK AT MOST 1048576: true; the input reads as it did. -/
def framesPlayUptoRow : OpenClaim := { program := "ytbbgkelcdooabaa", sum := "075b3f5716dc5b68866aaf45bb2ec35033fc5b783a9d7ab771c6bd84e5244016", func := "avocet/avocetlaw17.FramesPlay", spec := "framesPlay", apart := false, narrowed := true }
def FramesPlayUptoSaid : Prop := framesPlayUptoRow.holds Try.pinned (OpenSpec.upto framesPlaySpec)

/-- 'avocetlaw17.FramesBack', WHERE WHAT IT READS IS OF BULK AT MOST 1048576: true; the input reads as it did. -/
def framesBackUptoRow : OpenClaim := { program := "ytbbgkelcdooabaa", sum := "075b3f5716dc5b68866aaf45bb2ec35033fc5b783a9d7ab771c6bd84e5244016", func := "avocet/avocetlaw17.FramesBack", spec := "framesBack", apart := false, narrowed := true }
def FramesBackUptoSaid : Prop := framesBackUptoRow.holds Try.pinned (OpenSpec.upto framesBackSpec)

/-- 'avocetlaw17.FramesLoad', WHERE WHAT IT READS IS OF BULK AT MOST 1048576: true; the input reads as it did. -/
def framesLoadUptoRow : OpenClaim := { program := "ytbbgkelcdooabaa", sum := "075b3f5716dc5b68866aaf45bb2ec35033fc5b783a9d7ab771c6bd84e5244016", func := "avocet/avocetlaw17.FramesLoad", spec := "framesLoad", apart := false, narrowed := true }
def FramesLoadUptoSaid : Prop := framesLoadUptoRow.holds Try.pinned (OpenSpec.upto framesLoadSpec)

end Rows
end Go.Proofs.Ytbbgkelcdooabaa
