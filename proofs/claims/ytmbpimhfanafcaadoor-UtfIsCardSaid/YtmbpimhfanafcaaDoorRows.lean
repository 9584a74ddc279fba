/-
  NARROWER THAN 'FOR EVERY INPUT', by the rows' own cells (each row's printed sentence says how): UtfParts: laid · UtfBack: laid · UtfOne: laid · UtfCut: laid · UtfNames: laid · UtfIs: laid.
  DERIVED. THE GIVEN ROWS OF THIS SEAT. 6 by the template 'for every input the law returns true; each argument reads behind the call as it read before'; 0 by the template 'total and deterministic' (their statements: YtmbpimhfanafcaaDoorTotals.lean).
  GIVEN WITH THE SEED: the statements are not yours to turn. If you find one false, say at which input.
  Laid BY PROGRAM, IN A SANDBOX (cutbox-rows.mjs): the forced cells as the released guide's own fill.sh prints them over the translation 6abe53a1a677ca31… (all of the seat's roots in one cut). By AI agents, Wed Nov 11 2026. No macro, syntax, notation, axiom, sorry.
-/
import Derived.Test.YtmbpimhfanafcaaDoorChecked
import GoSem.PinnedTables
import GoSem.Claim
import GoSem.ClaimJoined
import GoSem.ClaimMapViews
import Derived.JoinedTies
import Derived.KernelRfl
namespace Go.Proofs.YtmbpimhfanafcaaDoor
/- THE CELL 'sum', in the pinned program and in every row, IS THE sha256 OF THE DUMP (.gsa) THAT YtmbpimhfanafcaaDoorProg.lean LOADS. Nothing in Lean hashes anything: it is a label: what it is worth is what the hold of that sum in a sandbox is worth. -/
noncomputable def Tryd.pinned : Pinned := { name := "ytmbpimhfanafcaadoor", sum := "6abe53a1a677ca310a84b2de7140739d95399ac1eea2f62f43cc21ce84b7c093", checked := Tryd.checked }
namespace Rows
def none {H : Type} : Left H := { results := [], args := [] }

/- WHAT THE LISTED PACKAGE-LEVEL VARIABLES READ AS WHEN THE CALL BEGINS. Each datum BY PROGRAM (the guide's laid-datum.mjs) off the statement by which the dump's own 'gosem.cut.vars' lays the variable. In a bare row this is a premise. The card (YtmbpimhfanafcaaDoorCards.lean) ties it to the program's text. -/
def laid_unicode_utf8_acceptRanges {H : Type} : DataW H := .agg [.agg [.lit (.int .u8 128), .lit (.int .u8 191)], .agg [.lit (.int .u8 160), .lit (.int .u8 191)], .agg [.lit (.int .u8 128), .lit (.int .u8 159)], .agg [.lit (.int .u8 144), .lit (.int .u8 191)], .agg [.lit (.int .u8 128), .lit (.int .u8 143)], .agg [.lit (.int .u8 0), .lit (.int .u8 0)], .agg [.lit (.int .u8 0), .lit (.int .u8 0)], .agg [.lit (.int .u8 0), .lit (.int .u8 0)], .agg [.lit (.int .u8 0), .lit (.int .u8 0)], .agg [.lit (.int .u8 0), .lit (.int .u8 0)], .agg [.lit (.int .u8 0), .lit (.int .u8 0)], .agg [.lit (.int .u8 0), .lit (.int .u8 0)], .agg [.lit (.int .u8 0), .lit (.int .u8 0)], .agg [.lit (.int .u8 0), .lit (.int .u8 0)], .agg [.lit (.int .u8 0), .lit (.int .u8 0)], .agg [.lit (.int .u8 0), .lit (.int .u8 0)]]
/-- One of Go's own tables, pinned by name: the form's constant. -/
def laid_unicode_utf8_first : DataW Unit := Go.Pinned.utf8First

/-- 'avocetlaw03.UtfParts': WHATEVER THE INPUT: true; the input reads as it did. -/
def utfPartsSpec : ChangeSpec := { name := "utfParts", fn := fun _ => fun
  | [d1, d2] => { results := [.lit (.bool true)], args := [d1, d2] }
  | _ => none }
def utfPartsRow : OpenClaim := { program := "ytmbpimhfanafcaadoor", sum := "6abe53a1a677ca310a84b2de7140739d95399ac1eea2f62f43cc21ce84b7c093", func := "avocet/avocetlaw03.UtfParts", spec := "utfParts", named := ["unicode/utf8.first", "unicode/utf8.acceptRanges"], apart := false, laid := [("unicode/utf8.acceptRanges", laid_unicode_utf8_acceptRanges), ("unicode/utf8.first", laid_unicode_utf8_first)] }
def UtfPartsSaid : Prop := utfPartsRow.holds Tryd.pinned (OpenSpec.ofChange utfPartsSpec)

/-- ITS FALSE NEIGHBOUR: 'it returns false'. Refute it at one input. -/
def utfPartsWrong : ChangeSpec := { name := "utfParts", fn := fun _ => fun
  | [d1, d2] => { results := [.lit (.bool false)], args := [d1, d2] }
  | _ => none }
def UtfPartsWrongFalsely : Prop := utfPartsRow.holds Tryd.pinned (OpenSpec.ofChange utfPartsWrong)

/-- 'avocetlaw03.UtfBack': WHATEVER THE INPUT: true; the input reads as it did. -/
def utfBackSpec : ChangeSpec := { name := "utfBack", fn := fun _ => fun
  | [d1, d2] => { results := [.lit (.bool true)], args := [d1, d2] }
  | _ => none }
def utfBackRow : OpenClaim := { program := "ytmbpimhfanafcaadoor", sum := "6abe53a1a677ca310a84b2de7140739d95399ac1eea2f62f43cc21ce84b7c093", func := "avocet/avocetlaw03.UtfBack", spec := "utfBack", named := ["unicode/utf8.first", "unicode/utf8.acceptRanges"], apart := false, laid := [("unicode/utf8.acceptRanges", laid_unicode_utf8_acceptRanges), ("unicode/utf8.first", laid_unicode_utf8_first)] }
def UtfBackSaid : Prop := utfBackRow.holds Tryd.pinned (OpenSpec.ofChange utfBackSpec)

/-- ITS FALSE NEIGHBOUR: 'it returns false'. Refute it at one input. -/
def utfBackWrong : ChangeSpec := { name := "utfBack", fn := fun _ => fun
  | [d1, d2] => { results := [.lit (.bool false)], args := [d1, d2] }
  | _ => none }
def UtfBackWrongFalsely : Prop := utfBackRow.holds Tryd.pinned (OpenSpec.ofChange utfBackWrong)

/-- 'avocetlaw03.UtfOne': WHATEVER THE INPUT: true; the input reads as it did. -/
def utfOneSpec : ChangeSpec := { name := "utfOne", fn := fun _ => fun
  | [d] => { results := [.lit (.bool true)], args := [d] }
  | _ => none }
def utfOneRow : OpenClaim := { program := "ytmbpimhfanafcaadoor", sum := "6abe53a1a677ca310a84b2de7140739d95399ac1eea2f62f43cc21ce84b7c093", func := "avocet/avocetlaw03.UtfOne", spec := "utfOne", named := ["unicode/utf8.first", "unicode/utf8.acceptRanges"], apart := false, laid := [("unicode/utf8.acceptRanges", laid_unicode_utf8_acceptRanges), ("unicode/utf8.first", laid_unicode_utf8_first)] }
def UtfOneSaid : Prop := utfOneRow.holds Tryd.pinned (OpenSpec.ofChange utfOneSpec)

/-- ITS FALSE NEIGHBOUR: 'it returns false'. Refute it at one input. -/
def utfOneWrong : ChangeSpec := { name := "utfOne", fn := fun _ => fun
  | [d] => { results := [.lit (.bool false)], args := [d] }
  | _ => none }
def UtfOneWrongFalsely : Prop := utfOneRow.holds Tryd.pinned (OpenSpec.ofChange utfOneWrong)

/-- 'avocetlaw03.UtfCut': WHATEVER THE INPUT: true; the input reads as it did. -/
def utfCutSpec : ChangeSpec := { name := "utfCut", fn := fun _ => fun
  | [d1, d2] => { results := [.lit (.bool true)], args := [d1, d2] }
  | _ => none }
def utfCutRow : OpenClaim := { program := "ytmbpimhfanafcaadoor", sum := "6abe53a1a677ca310a84b2de7140739d95399ac1eea2f62f43cc21ce84b7c093", func := "avocet/avocetlaw03.UtfCut", spec := "utfCut", named := ["unicode/utf8.first", "unicode/utf8.acceptRanges"], apart := false, laid := [("unicode/utf8.acceptRanges", laid_unicode_utf8_acceptRanges), ("unicode/utf8.first", laid_unicode_utf8_first)] }
def UtfCutSaid : Prop := utfCutRow.holds Tryd.pinned (OpenSpec.ofChange utfCutSpec)

/-- ITS FALSE NEIGHBOUR: 'it returns false'. Refute it at one input. -/
def utfCutWrong : ChangeSpec := { name := "utfCut", fn := fun _ => fun
  | [d1, d2] => { results := [.lit (.bool false)], args := [d1, d2] }
  | _ => none }
def UtfCutWrongFalsely : Prop := utfCutRow.holds Tryd.pinned (OpenSpec.ofChange utfCutWrong)

/-- 'avocetlaw03.UtfNames': WHATEVER THE INPUT: true; the input reads as it did. -/
def utfNamesSpec : ChangeSpec := { name := "utfNames", fn := fun _ => fun
  | [d1, d2, d3] => { results := [.lit (.bool true)], args := [d1, d2, d3] }
  | _ => none }
def utfNamesRow : OpenClaim := { program := "ytmbpimhfanafcaadoor", sum := "6abe53a1a677ca310a84b2de7140739d95399ac1eea2f62f43cc21ce84b7c093", func := "avocet/avocetlaw03.UtfNames", spec := "utfNames", unfollowed := true, recurses := true, named := ["unicode/utf8.first", "unicode/utf8.acceptRanges"], apart := false, laid := [("unicode/utf8.acceptRanges", laid_unicode_utf8_acceptRanges), ("unicode/utf8.first", laid_unicode_utf8_first)] }
def UtfNamesSaid : Prop := utfNamesRow.holds Tryd.pinned (OpenSpec.ofChange utfNamesSpec)

/-- ITS FALSE NEIGHBOUR: 'it returns false'. Refute it at one input. -/
def utfNamesWrong : ChangeSpec := { name := "utfNames", fn := fun _ => fun
  | [d1, d2, d3] => { results := [.lit (.bool false)], args := [d1, d2, d3] }
  | _ => none }
def UtfNamesWrongFalsely : Prop := utfNamesRow.holds Tryd.pinned (OpenSpec.ofChange utfNamesWrong)

/-- 'avocetlaw03.UtfIs': WHATEVER THE INPUT: true; the input reads as it did. -/
def utfIsSpec : ChangeSpec := { name := "utfIs", fn := fun _ => fun
  | [d1, d2, d3, d4] => { results := [.lit (.bool true)], args := [d1, d2, d3, d4] }
  | _ => none }
def utfIsRow : OpenClaim := { program := "ytmbpimhfanafcaadoor", sum := "6abe53a1a677ca310a84b2de7140739d95399ac1eea2f62f43cc21ce84b7c093", func := "avocet/avocetlaw03.UtfIs", spec := "utfIs", unfollowed := true, recurses := true, named := ["unicode/utf8.first", "unicode/utf8.acceptRanges"], apart := false, laid := [("unicode/utf8.acceptRanges", laid_unicode_utf8_acceptRanges), ("unicode/utf8.first", laid_unicode_utf8_first)] }
def UtfIsSaid : Prop := utfIsRow.holds Tryd.pinned (OpenSpec.ofChange utfIsSpec)

/-- ITS FALSE NEIGHBOUR: 'it returns false'. Refute it at one input. -/
def utfIsWrong : ChangeSpec := { name := "utfIs", fn := fun _ => fun
  | [d1, d2, d3, d4] => { results := [.lit (.bool false)], args := [d1, d2, d3, d4] }
  | _ => none }
def UtfIsWrongFalsely : Prop := utfIsRow.holds Tryd.pinned (OpenSpec.ofChange utfIsWrong)

/- THE SECOND FORM. 'bulk': how many values and letters a reading holds, each counted each time it is reached (what is shared counts as often as it is met; a slice's spare places count too). A statement '..UptoSaid' is the law's where the arguments, and the package variables that the reading takes, are together of bulk at most 1048576: NARROWER than '..Said'. Prove '..Said' where nothing that the law and all that it calls make is longer than what came in: it says more and counts as full. Else prove '..UptoSaid'. A law counts once. -/
mutual
def uptoBulk {H : Type} : DataW H → Nat
  | .lit (.string bytes) => bytes.length + 1
  | .lit _ => 1
  | .nil => 1
  | .ptr d => uptoBulk d + 1
  | .slice elems spare => uptoBulkAll elems + uptoBulkAll spare + 1
  | .agg parts => uptoBulkAll parts + 1
  | .iface _ d => uptoBulk d + 1
  | .map entries => uptoBulkEntries entries + 1
  | .held _ => 1
def uptoBulkAll {H : Type} : List (DataW H) → Nat
  | [] => 0
  | d :: r => uptoBulk d + uptoBulkAll r
def uptoBulkEntries {H : Type} : List (Lit × DataW H) → Nat
  | [] => 0
  | x :: r => uptoBulkEntry x + uptoBulkEntries r
def uptoBulkEntry {H : Type} : Lit × DataW H → Nat
  | (.string bytes, d) => bytes.length + uptoBulk d + 1
  | (_, d) => uptoBulk d + 1
 end
def uptoSmall : (H : Type) → List (DataW H) → Bool := fun _ ds => decide (uptoBulkAll ds ≤ 1048576)
def OpenSpec.upto (s : _root_.Go.ChangeSpec) : _root_.Go.OpenSpec := { _root_.Go.OpenSpec.ofChange s with cond := some uptoSmall }

/-- 'avocetlaw03.UtfParts', WHERE WHAT IT READS IS OF BULK AT MOST 1048576: true; the input reads as it did. -/
def utfPartsUptoRow : OpenClaim := { program := "ytmbpimhfanafcaadoor", sum := "6abe53a1a677ca310a84b2de7140739d95399ac1eea2f62f43cc21ce84b7c093", func := "avocet/avocetlaw03.UtfParts", spec := "utfParts", named := ["unicode/utf8.first", "unicode/utf8.acceptRanges"], apart := false, laid := [("unicode/utf8.acceptRanges", laid_unicode_utf8_acceptRanges), ("unicode/utf8.first", laid_unicode_utf8_first)], narrowed := true }
def UtfPartsUptoSaid : Prop := utfPartsUptoRow.holds Tryd.pinned (OpenSpec.upto utfPartsSpec)

/-- 'avocetlaw03.UtfBack', WHERE WHAT IT READS IS OF BULK AT MOST 1048576: true; the input reads as it did. -/
def utfBackUptoRow : OpenClaim := { program := "ytmbpimhfanafcaadoor", sum := "6abe53a1a677ca310a84b2de7140739d95399ac1eea2f62f43cc21ce84b7c093", func := "avocet/avocetlaw03.UtfBack", spec := "utfBack", named := ["unicode/utf8.first", "unicode/utf8.acceptRanges"], apart := false, laid := [("unicode/utf8.acceptRanges", laid_unicode_utf8_acceptRanges), ("unicode/utf8.first", laid_unicode_utf8_first)], narrowed := true }
def UtfBackUptoSaid : Prop := utfBackUptoRow.holds Tryd.pinned (OpenSpec.upto utfBackSpec)

/-- 'avocetlaw03.UtfOne', WHERE WHAT IT READS IS OF BULK AT MOST 1048576: true; the input reads as it did. -/
def utfOneUptoRow : OpenClaim := { program := "ytmbpimhfanafcaadoor", sum := "6abe53a1a677ca310a84b2de7140739d95399ac1eea2f62f43cc21ce84b7c093", func := "avocet/avocetlaw03.UtfOne", spec := "utfOne", named := ["unicode/utf8.first", "unicode/utf8.acceptRanges"], apart := false, laid := [("unicode/utf8.acceptRanges", laid_unicode_utf8_acceptRanges), ("unicode/utf8.first", laid_unicode_utf8_first)], narrowed := true }
def UtfOneUptoSaid : Prop := utfOneUptoRow.holds Tryd.pinned (OpenSpec.upto utfOneSpec)

/-- 'avocetlaw03.UtfCut', WHERE WHAT IT READS IS OF BULK AT MOST 1048576: true; the input reads as it did. -/
def utfCutUptoRow : OpenClaim := { program := "ytmbpimhfanafcaadoor", sum := "6abe53a1a677ca310a84b2de7140739d95399ac1eea2f62f43cc21ce84b7c093", func := "avocet/avocetlaw03.UtfCut", spec := "utfCut", named := ["unicode/utf8.first", "unicode/utf8.acceptRanges"], apart := false, laid := [("unicode/utf8.acceptRanges", laid_unicode_utf8_acceptRanges), ("unicode/utf8.first", laid_unicode_utf8_first)], narrowed := true }
def UtfCutUptoSaid : Prop := utfCutUptoRow.holds Tryd.pinned (OpenSpec.upto utfCutSpec)

/-- 'avocetlaw03.UtfNames', WHERE WHAT IT READS IS OF BULK AT MOST 1048576: true; the input reads as it did. -/
def utfNamesUptoRow : OpenClaim := { program := "ytmbpimhfanafcaadoor", sum := "6abe53a1a677ca310a84b2de7140739d95399ac1eea2f62f43cc21ce84b7c093", func := "avocet/avocetlaw03.UtfNames", spec := "utfNames", unfollowed := true, recurses := true, named := ["unicode/utf8.first", "unicode/utf8.acceptRanges"], apart := false, laid := [("unicode/utf8.acceptRanges", laid_unicode_utf8_acceptRanges), ("unicode/utf8.first", laid_unicode_utf8_first)], narrowed := true }
def UtfNamesUptoSaid : Prop := utfNamesUptoRow.holds Tryd.pinned (OpenSpec.upto utfNamesSpec)

/-- 'avocetlaw03.UtfIs', WHERE WHAT IT READS IS OF BULK AT MOST 1048576: true; the input reads as it did. -/
def utfIsUptoRow : OpenClaim := { program := "ytmbpimhfanafcaadoor", sum := "6abe53a1a677ca310a84b2de7140739d95399ac1eea2f62f43cc21ce84b7c093", func := "avocet/avocetlaw03.UtfIs", spec := "utfIs", unfollowed := true, recurses := true, named := ["unicode/utf8.first", "unicode/utf8.acceptRanges"], apart := false, laid := [("unicode/utf8.acceptRanges", laid_unicode_utf8_acceptRanges), ("unicode/utf8.first", laid_unicode_utf8_first)], narrowed := true }
def UtfIsUptoSaid : Prop := utfIsUptoRow.holds Tryd.pinned (OpenSpec.upto utfIsSpec)

end Rows
end Go.Proofs.YtmbpimhfanafcaaDoor
