/-
  NARROWER THAN 'FOR EVERY INPUT', by the rows' own cells (each row's printed sentence says how): SectBack: laid · SectHeads: laid · SectCustom: laid · SectTold: laid · SectFinds: laid · SectIs: laid.
  DERIVED. THE GIVEN ROWS OF THIS SEAT. 6 by the template 'for every input the law returns true; each argument reads behind the call as it read before'; 0 by the template 'total and deterministic' (their statements: YtoeknjmdlmhajaaDoorTotals.lean).
  GIVEN WITH THE SEED: the statements are not yours to turn. If you find one false, say at which input.
  Laid BY PROGRAM, IN A SANDBOX (cutbox-rows.mjs): the forced cells as the released guide's own fill.sh prints them over the translation 68921721f79335ad… (all of the seat's roots in one cut). By AI agents, Wed Nov 11 2026. No macro, syntax, notation, axiom, sorry.
-/
import Derived.Test.YtoeknjmdlmhajaaDoorChecked
import GoSem.PinnedTables
import GoSem.Claim
import GoSem.ClaimJoined
import GoSem.ClaimMapViews
import Derived.JoinedTies
import Derived.KernelRfl
namespace Go.Proofs.YtoeknjmdlmhajaaDoor
/- THE CELL 'sum', in the pinned program and in every row, IS THE sha256 OF THE DUMP (.gsa) THAT YtoeknjmdlmhajaaDoorProg.lean LOADS. Nothing in Lean hashes anything: it is a label: what it is worth is what the hold of that sum in a sandbox is worth. -/
noncomputable def Tryd.pinned : Pinned := { name := "ytoeknjmdlmhajaadoor", sum := "68921721f79335ad1f70c038972fe3335b5244265bedacce07f1ad990599e56b", checked := Tryd.checked }
namespace Rows
def none {H : Type} : Left H := { results := [], args := [] }

/- WHAT THE LISTED PACKAGE-LEVEL VARIABLES READ AS WHEN THE CALL BEGINS. Each datum BY PROGRAM (the guide's laid-datum.mjs) off the statement by which the dump's own 'gosem.cut.vars' lays the variable. In a bare row this is a premise. The card (YtoeknjmdlmhajaaDoorCards.lean) ties it to the program's text. -/
def laid_unicode_utf8_acceptRanges {H : Type} : DataW H := .agg [.agg [.lit (.int .u8 128), .lit (.int .u8 191)], .agg [.lit (.int .u8 160), .lit (.int .u8 191)], .agg [.lit (.int .u8 128), .lit (.int .u8 159)], .agg [.lit (.int .u8 144), .lit (.int .u8 191)], .agg [.lit (.int .u8 128), .lit (.int .u8 143)], .agg [.lit (.int .u8 0), .lit (.int .u8 0)], .agg [.lit (.int .u8 0), .lit (.int .u8 0)], .agg [.lit (.int .u8 0), .lit (.int .u8 0)], .agg [.lit (.int .u8 0), .lit (.int .u8 0)], .agg [.lit (.int .u8 0), .lit (.int .u8 0)], .agg [.lit (.int .u8 0), .lit (.int .u8 0)], .agg [.lit (.int .u8 0), .lit (.int .u8 0)], .agg [.lit (.int .u8 0), .lit (.int .u8 0)], .agg [.lit (.int .u8 0), .lit (.int .u8 0)], .agg [.lit (.int .u8 0), .lit (.int .u8 0)], .agg [.lit (.int .u8 0), .lit (.int .u8 0)]]
/-- One of Go's own tables, pinned by name: the form's constant. -/
def laid_unicode_utf8_first : DataW Unit := Go.Pinned.utf8First

/-- 'avocetlaw07.SectBack': WHATEVER THE INPUT: true; the input reads as it did. -/
def sectBackSpec : ChangeSpec := { name := "sectBack", fn := fun _ => fun
  | [d] => { results := [.lit (.bool true)], args := [d] }
  | _ => none }
def sectBackRow : OpenClaim := { program := "ytoeknjmdlmhajaadoor", sum := "68921721f79335ad1f70c038972fe3335b5244265bedacce07f1ad990599e56b", func := "avocet/avocetlaw07.SectBack", spec := "sectBack", unfollowed := true, recurses := true, named := ["unicode/utf8.first", "unicode/utf8.acceptRanges"], apart := false, laid := [("unicode/utf8.acceptRanges", laid_unicode_utf8_acceptRanges), ("unicode/utf8.first", laid_unicode_utf8_first)] }
def SectBackSaid : Prop := sectBackRow.holds Tryd.pinned (OpenSpec.ofChange sectBackSpec)

/-- ITS FALSE NEIGHBOUR: 'it returns false'. Refute it at one input. -/
def sectBackWrong : ChangeSpec := { name := "sectBack", fn := fun _ => fun
  | [d] => { results := [.lit (.bool false)], args := [d] }
  | _ => none }
def SectBackWrongFalsely : Prop := sectBackRow.holds Tryd.pinned (OpenSpec.ofChange sectBackWrong)

/-- 'avocetlaw07.SectHeads': WHATEVER THE INPUT: true; the input reads as it did. -/
def sectHeadsSpec : ChangeSpec := { name := "sectHeads", fn := fun _ => fun
  | [d1, d2, d3] => { results := [.lit (.bool true)], args := [d1, d2, d3] }
  | _ => none }
def sectHeadsRow : OpenClaim := { program := "ytoeknjmdlmhajaadoor", sum := "68921721f79335ad1f70c038972fe3335b5244265bedacce07f1ad990599e56b", func := "avocet/avocetlaw07.SectHeads", spec := "sectHeads", unfollowed := true, recurses := true, named := ["unicode/utf8.first", "unicode/utf8.acceptRanges"], apart := false, laid := [("unicode/utf8.acceptRanges", laid_unicode_utf8_acceptRanges), ("unicode/utf8.first", laid_unicode_utf8_first)] }
def SectHeadsSaid : Prop := sectHeadsRow.holds Tryd.pinned (OpenSpec.ofChange sectHeadsSpec)

/-- ITS FALSE NEIGHBOUR: 'it returns false'. Refute it at one input. -/
def sectHeadsWrong : ChangeSpec := { name := "sectHeads", fn := fun _ => fun
  | [d1, d2, d3] => { results := [.lit (.bool false)], args := [d1, d2, d3] }
  | _ => none }
def SectHeadsWrongFalsely : Prop := sectHeadsRow.holds Tryd.pinned (OpenSpec.ofChange sectHeadsWrong)

/-- 'avocetlaw07.SectCustom': WHATEVER THE INPUT: true; the input reads as it did. -/
def sectCustomSpec : ChangeSpec := { name := "sectCustom", fn := fun _ => fun
  | [d1, d2, d3, d4] => { results := [.lit (.bool true)], args := [d1, d2, d3, d4] }
  | _ => none }
def sectCustomRow : OpenClaim := { program := "ytoeknjmdlmhajaadoor", sum := "68921721f79335ad1f70c038972fe3335b5244265bedacce07f1ad990599e56b", func := "avocet/avocetlaw07.SectCustom", spec := "sectCustom", unfollowed := true, recurses := true, named := ["unicode/utf8.first", "unicode/utf8.acceptRanges"], apart := false, laid := [("unicode/utf8.acceptRanges", laid_unicode_utf8_acceptRanges), ("unicode/utf8.first", laid_unicode_utf8_first)] }
def SectCustomSaid : Prop := sectCustomRow.holds Tryd.pinned (OpenSpec.ofChange sectCustomSpec)

/-- ITS FALSE NEIGHBOUR: 'it returns false'. Refute it at one input. -/
def sectCustomWrong : ChangeSpec := { name := "sectCustom", fn := fun _ => fun
  | [d1, d2, d3, d4] => { results := [.lit (.bool false)], args := [d1, d2, d3, d4] }
  | _ => none }
def SectCustomWrongFalsely : Prop := sectCustomRow.holds Tryd.pinned (OpenSpec.ofChange sectCustomWrong)

/-- 'avocetlaw07.SectTold': WHATEVER THE INPUT: true; the input reads as it did. -/
def sectToldSpec : ChangeSpec := { name := "sectTold", fn := fun _ => fun
  | [d] => { results := [.lit (.bool true)], args := [d] }
  | _ => none }
def sectToldRow : OpenClaim := { program := "ytoeknjmdlmhajaadoor", sum := "68921721f79335ad1f70c038972fe3335b5244265bedacce07f1ad990599e56b", func := "avocet/avocetlaw07.SectTold", spec := "sectTold", unfollowed := true, recurses := true, named := ["unicode/utf8.first", "unicode/utf8.acceptRanges"], apart := false, laid := [("unicode/utf8.acceptRanges", laid_unicode_utf8_acceptRanges), ("unicode/utf8.first", laid_unicode_utf8_first)] }
def SectToldSaid : Prop := sectToldRow.holds Tryd.pinned (OpenSpec.ofChange sectToldSpec)

/-- ITS FALSE NEIGHBOUR: 'it returns false'. Refute it at one input. -/
def sectToldWrong : ChangeSpec := { name := "sectTold", fn := fun _ => fun
  | [d] => { results := [.lit (.bool false)], args := [d] }
  | _ => none }
def SectToldWrongFalsely : Prop := sectToldRow.holds Tryd.pinned (OpenSpec.ofChange sectToldWrong)

/-- 'avocetlaw07.SectFinds': WHATEVER THE INPUT: true; the input reads as it did. -/
def sectFindsSpec : ChangeSpec := { name := "sectFinds", fn := fun _ => fun
  | [d1, d2] => { results := [.lit (.bool true)], args := [d1, d2] }
  | _ => none }
def sectFindsRow : OpenClaim := { program := "ytoeknjmdlmhajaadoor", sum := "68921721f79335ad1f70c038972fe3335b5244265bedacce07f1ad990599e56b", func := "avocet/avocetlaw07.SectFinds", spec := "sectFinds", unfollowed := true, recurses := true, named := ["unicode/utf8.first", "unicode/utf8.acceptRanges"], apart := false, laid := [("unicode/utf8.acceptRanges", laid_unicode_utf8_acceptRanges), ("unicode/utf8.first", laid_unicode_utf8_first)] }
def SectFindsSaid : Prop := sectFindsRow.holds Tryd.pinned (OpenSpec.ofChange sectFindsSpec)

/-- ITS FALSE NEIGHBOUR: 'it returns false'. Refute it at one input. -/
def sectFindsWrong : ChangeSpec := { name := "sectFinds", fn := fun _ => fun
  | [d1, d2] => { results := [.lit (.bool false)], args := [d1, d2] }
  | _ => none }
def SectFindsWrongFalsely : Prop := sectFindsRow.holds Tryd.pinned (OpenSpec.ofChange sectFindsWrong)

/-- 'avocetlaw07.SectIs': WHATEVER THE INPUT: true; the input reads as it did. -/
def sectIsSpec : ChangeSpec := { name := "sectIs", fn := fun _ => fun
  | [d1, d2, d3, d4, d5] => { results := [.lit (.bool true)], args := [d1, d2, d3, d4, d5] }
  | _ => none }
def sectIsRow : OpenClaim := { program := "ytoeknjmdlmhajaadoor", sum := "68921721f79335ad1f70c038972fe3335b5244265bedacce07f1ad990599e56b", func := "avocet/avocetlaw07.SectIs", spec := "sectIs", unfollowed := true, recurses := true, named := ["unicode/utf8.first", "unicode/utf8.acceptRanges"], apart := false, laid := [("unicode/utf8.acceptRanges", laid_unicode_utf8_acceptRanges), ("unicode/utf8.first", laid_unicode_utf8_first)] }
def SectIsSaid : Prop := sectIsRow.holds Tryd.pinned (OpenSpec.ofChange sectIsSpec)

/-- ITS FALSE NEIGHBOUR: 'it returns false'. Refute it at one input. -/
def sectIsWrong : ChangeSpec := { name := "sectIs", fn := fun _ => fun
  | [d1, d2, d3, d4, d5] => { results := [.lit (.bool false)], args := [d1, d2, d3, d4, d5] }
  | _ => none }
def SectIsWrongFalsely : Prop := sectIsRow.holds Tryd.pinned (OpenSpec.ofChange sectIsWrong)

/- THE SECOND FORM. 'bulk': how many values and letters a reading holds, each counted each time it is reached (what is shared counts as often as it is met; a slice's spare places count too). A statement '..UptoSaid' is the law's where the arguments, and the package variables that the reading takes, are together of bulk at most 1048576: NARROWER than '..Said'. Prove '..Said' where nothing that the law and all that it calls make is longer than what came in: it says more and counts as full. Else prove '..UptoSaid'. A law counts once. -/
mutual
def uptoBulk {H : Type} : DataW H → Nat
  | .lit (.string bytes) => bytes.length + 1
  | .lit _ => 1
  | .nil => 1
  | .ptr d => uptoBulk d + 1
  | .slice elems spare => uptoBulkAll elems + uptoBulkAll spare + 1
  | .agg parts => uptoBulkAll parts + 1
  | .iface _ d => uptoBulk d + 1
  | .map entries => uptoBulkEntries entries + 1
  | .held _ => 1
def uptoBulkAll {H : Type} : List (DataW H) → Nat
  | [] => 0
  | d :: r => uptoBulk d + uptoBulkAll r
def uptoBulkEntries {H : Type} : List (Lit × DataW H) → Nat
  | [] => 0
  | x :: r => uptoBulkEntry x + uptoBulkEntries r
def uptoBulkEntry {H : Type} : Lit × DataW H → Nat
  | (.string bytes, d) => bytes.length + uptoBulk d + 1
  | (_, d) => uptoBulk d + 1
 end
def uptoSmall : (H : Type) → List (DataW H) → Bool := fun _ ds => decide (uptoBulkAll ds ≤ 1048576)
def OpenSpec.upto (s : _root_.Go.ChangeSpec) : _root_.Go.OpenSpec := { _root_.Go.OpenSpec.ofChange s with cond := some uptoSmall }

/-- 'avocetlaw07.SectBack', WHERE WHAT IT READS IS OF BULK AT MOST 1048576: true; the input reads as it did. -/
def sectBackUptoRow : OpenClaim := { program := "ytoeknjmdlmhajaadoor", sum := "68921721f79335ad1f70c038972fe3335b5244265bedacce07f1ad990599e56b", func := "avocet/avocetlaw07.SectBack", spec := "sectBack", unfollowed := true, recurses := true, named := ["unicode/utf8.first", "unicode/utf8.acceptRanges"], apart := false, laid := [("unicode/utf8.acceptRanges", laid_unicode_utf8_acceptRanges), ("unicode/utf8.first", laid_unicode_utf8_first)], narrowed := true }
def SectBackUptoSaid : Prop := sectBackUptoRow.holds Tryd.pinned (OpenSpec.upto sectBackSpec)

/-- 'avocetlaw07.SectHeads', WHERE WHAT IT READS IS OF BULK AT MOST 1048576: true; the input reads as it did. -/
def sectHeadsUptoRow : OpenClaim := { program := "ytoeknjmdlmhajaadoor", sum := "68921721f79335ad1f70c038972fe3335b5244265bedacce07f1ad990599e56b", func := "avocet/avocetlaw07.SectHeads", spec := "sectHeads", unfollowed := true, recurses := true, named := ["unicode/utf8.first", "unicode/utf8.acceptRanges"], apart := false, laid := [("unicode/utf8.acceptRanges", laid_unicode_utf8_acceptRanges), ("unicode/utf8.first", laid_unicode_utf8_first)], narrowed := true }
def SectHeadsUptoSaid : Prop := sectHeadsUptoRow.holds Tryd.pinned (OpenSpec.upto sectHeadsSpec)

/-- 'avocetlaw07.SectCustom', WHERE WHAT IT READS IS OF BULK AT MOST 1048576: true; the input reads as it did. -/
def sectCustomUptoRow : OpenClaim := { program := "ytoeknjmdlmhajaadoor", sum := "68921721f79335ad1f70c038972fe3335b5244265bedacce07f1ad990599e56b", func := "avocet/avocetlaw07.SectCustom", spec := "sectCustom", unfollowed := true, recurses := true, named := ["unicode/utf8.first", "unicode/utf8.acceptRanges"], apart := false, laid := [("unicode/utf8.acceptRanges", laid_unicode_utf8_acceptRanges), ("unicode/utf8.first", laid_unicode_utf8_first)], narrowed := true }
def SectCustomUptoSaid : Prop := sectCustomUptoRow.holds Tryd.pinned (OpenSpec.upto sectCustomSpec)

/-- 'avocetlaw07.SectTold', WHERE WHAT IT READS IS OF BULK AT MOST 1048576: true; the input reads as it did. -/
def sectToldUptoRow : OpenClaim := { program := "ytoeknjmdlmhajaadoor", sum := "68921721f79335ad1f70c038972fe3335b5244265bedacce07f1ad990599e56b", func := "avocet/avocetlaw07.SectTold", spec := "sectTold", unfollowed := true, recurses := true, named := ["unicode/utf8.first", "unicode/utf8.acceptRanges"], apart := false, laid := [("unicode/utf8.acceptRanges", laid_unicode_utf8_acceptRanges), ("unicode/utf8.first", laid_unicode_utf8_first)], narrowed := true }
def SectToldUptoSaid : Prop := sectToldUptoRow.holds Tryd.pinned (OpenSpec.upto sectToldSpec)

/-- 'avocetlaw07.SectFinds', WHERE WHAT IT READS IS OF BULK AT MOST 1048576: true; the input reads as it did. -/
def sectFindsUptoRow : OpenClaim := { program := "ytoeknjmdlmhajaadoor", sum := "68921721f79335ad1f70c038972fe3335b5244265bedacce07f1ad990599e56b", func := "avocet/avocetlaw07.SectFinds", spec := "sectFinds", unfollowed := true, recurses := true, named := ["unicode/utf8.first", "unicode/utf8.acceptRanges"], apart := false, laid := [("unicode/utf8.acceptRanges", laid_unicode_utf8_acceptRanges), ("unicode/utf8.first", laid_unicode_utf8_first)], narrowed := true }
def SectFindsUptoSaid : Prop := sectFindsUptoRow.holds Tryd.pinned (OpenSpec.upto sectFindsSpec)

/-- 'avocetlaw07.SectIs', WHERE WHAT IT READS IS OF BULK AT MOST 1048576: true; the input reads as it did. -/
def sectIsUptoRow : OpenClaim := { program := "ytoeknjmdlmhajaadoor", sum := "68921721f79335ad1f70c038972fe3335b5244265bedacce07f1ad990599e56b", func := "avocet/avocetlaw07.SectIs", spec := "sectIs", unfollowed := true, recurses := true, named := ["unicode/utf8.first", "unicode/utf8.acceptRanges"], apart := false, laid := [("unicode/utf8.acceptRanges", laid_unicode_utf8_acceptRanges), ("unicode/utf8.first", laid_unicode_utf8_first)], narrowed := true }
def SectIsUptoSaid : Prop := sectIsUptoRow.holds Tryd.pinned (OpenSpec.upto sectIsSpec)

end Rows
end Go.Proofs.YtoeknjmdlmhajaaDoor
