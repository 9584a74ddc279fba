/-
  No cell of these rows narrows 'for every input' (looked for: loops, veiled, ifaces, maps, wideKeys, modest, calm, conditions, laid).
  DERIVED. THE GIVEN ROWS OF THIS SEAT. 5 by the template 'for every input the law returns true; each argument reads behind the call as it read before'; 0 by the template 'total and deterministic' (their statements: YtjdnkhgpnddncaaTotals.lean).
  GIVEN WITH THE SEED: the statements are not yours to turn. If you find one false, say at which input.
  Laid BY PROGRAM, IN A SANDBOX (cutbox-rows.mjs): the forced cells as the released guide's own fill.sh prints them over the translation 1a705dd41a191054… (all of the seat's roots in one cut). By AI agents, Wed Nov 11 2026. No macro, syntax, notation, axiom, sorry.
-/
import Derived.Test.YtjdnkhgpnddncaaChecked
import GoSem.Claim
import GoSem.ClaimJoined
import GoSem.ClaimMapViews
import Derived.JoinedTies
import Derived.KernelRfl
namespace Go.Proofs.Ytjdnkhgpnddncaa
/- THE CELL 'sum', in the pinned program and in every row, IS THE sha256 OF THE DUMP (.gsa) THAT YtjdnkhgpnddncaaProg.lean LOADS. Nothing in Lean hashes anything: it is a label: what it is worth is what the hold of that sum in a sandbox is worth. -/
noncomputable def Try.pinned : Pinned := { name := "ytjdnkhgpnddncaa", sum := "1a705dd41a1910541f46c5378428a22e10d07282b7879a9e84e0a4d0ffdf30c9", checked := Try.checked }
namespace Rows
def none {H : Type} : Left H := { results := [], args := [] }

/-- 'avocetlaw14.TableLays': WHATEVER THE INPUT: true; the input reads as it did. -/
def tableLaysSpec : ChangeSpec := { name := "tableLays", fn := fun _ => fun
  | [d1, d2, d3, d4] => { results := [.lit (.bool true)], args := [d1, d2, d3, d4] }
  | _ => none }
def tableLaysRow : OpenClaim := { program := "ytjdnkhgpnddncaa", sum := "1a705dd41a1910541f46c5378428a22e10d07282b7879a9e84e0a4d0ffdf30c9", func := "avocet/avocetlaw14.TableLays", spec := "tableLays", unfollowed := true, recurses := true, apart := false }
def TableLaysSaid : Prop := tableLaysRow.holds Try.pinned (OpenSpec.ofChange tableLaysSpec)

/-- ITS FALSE NEIGHBOUR: 'it returns false'. Refute it at one input. -/
def tableLaysWrong : ChangeSpec := { name := "tableLays", fn := fun _ => fun
  | [d1, d2, d3, d4] => { results := [.lit (.bool false)], args := [d1, d2, d3, d4] }
  | _ => none }
def TableLaysWrongFalsely : Prop := tableLaysRow.holds Try.pinned (OpenSpec.ofChange tableLaysWrong)

/-- 'avocetlaw14.TableMany': WHATEVER THE INPUT: true; the input reads as it did. -/
def tableManySpec : ChangeSpec := { name := "tableMany", fn := fun _ => fun
  | [d] => { results := [.lit (.bool true)], args := [d] }
  | _ => none }
def tableManyRow : OpenClaim := { program := "ytjdnkhgpnddncaa", sum := "1a705dd41a1910541f46c5378428a22e10d07282b7879a9e84e0a4d0ffdf30c9", func := "avocet/avocetlaw14.TableMany", spec := "tableMany", unfollowed := true, recurses := true, apart := false }
def TableManySaid : Prop := tableManyRow.holds Try.pinned (OpenSpec.ofChange tableManySpec)

/-- ITS FALSE NEIGHBOUR: 'it returns false'. Refute it at one input. -/
def tableManyWrong : ChangeSpec := { name := "tableMany", fn := fun _ => fun
  | [d] => { results := [.lit (.bool false)], args := [d] }
  | _ => none }
def TableManyWrongFalsely : Prop := tableManyRow.holds Try.pinned (OpenSpec.ofChange tableManyWrong)

/-- 'avocetlaw14.TableGlobs': WHATEVER THE INPUT: true; the input reads as it did. -/
def tableGlobsSpec : ChangeSpec := { name := "tableGlobs", fn := fun _ => fun
  | [d1, d2] => { results := [.lit (.bool true)], args := [d1, d2] }
  | _ => none }
def tableGlobsRow : OpenClaim := { program := "ytjdnkhgpnddncaa", sum := "1a705dd41a1910541f46c5378428a22e10d07282b7879a9e84e0a4d0ffdf30c9", func := "avocet/avocetlaw14.TableGlobs", spec := "tableGlobs", unfollowed := true, recurses := true, apart := false }
def TableGlobsSaid : Prop := tableGlobsRow.holds Try.pinned (OpenSpec.ofChange tableGlobsSpec)

/-- ITS FALSE NEIGHBOUR: 'it returns false'. Refute it at one input. -/
def tableGlobsWrong : ChangeSpec := { name := "tableGlobs", fn := fun _ => fun
  | [d1, d2] => { results := [.lit (.bool false)], args := [d1, d2] }
  | _ => none }
def TableGlobsWrongFalsely : Prop := tableGlobsRow.holds Try.pinned (OpenSpec.ofChange tableGlobsWrong)

/-- 'avocetlaw14.TableTypes': WHATEVER THE INPUT: true; the input reads as it did. -/
def tableTypesSpec : ChangeSpec := { name := "tableTypes", fn := fun _ => fun
  | [d1, d2, d3, d4] => { results := [.lit (.bool true)], args := [d1, d2, d3, d4] }
  | _ => none }
def tableTypesRow : OpenClaim := { program := "ytjdnkhgpnddncaa", sum := "1a705dd41a1910541f46c5378428a22e10d07282b7879a9e84e0a4d0ffdf30c9", func := "avocet/avocetlaw14.TableTypes", spec := "tableTypes", unfollowed := true, recurses := true, apart := false }
def TableTypesSaid : Prop := tableTypesRow.holds Try.pinned (OpenSpec.ofChange tableTypesSpec)

/-- ITS FALSE NEIGHBOUR: 'it returns false'. Refute it at one input. -/
def tableTypesWrong : ChangeSpec := { name := "tableTypes", fn := fun _ => fun
  | [d1, d2, d3, d4] => { results := [.lit (.bool false)], args := [d1, d2, d3, d4] }
  | _ => none }
def TableTypesWrongFalsely : Prop := tableTypesRow.holds Try.pinned (OpenSpec.ofChange tableTypesWrong)

/-- 'avocetlaw14.TablePlays': WHATEVER THE INPUT: true; the input reads as it did. -/
def tablePlaysSpec : ChangeSpec := { name := "tablePlays", fn := fun _ => fun
  | [d1, d2] => { results := [.lit (.bool true)], args := [d1, d2] }
  | _ => none }
def tablePlaysRow : OpenClaim := { program := "ytjdnkhgpnddncaa", sum := "1a705dd41a1910541f46c5378428a22e10d07282b7879a9e84e0a4d0ffdf30c9", func := "avocet/avocetlaw14.TablePlays", spec := "tablePlays", unfollowed := true, recurses := true, apart := false }
def TablePlaysSaid : Prop := tablePlaysRow.holds Try.pinned (OpenSpec.ofChange tablePlaysSpec)

/-- ITS FALSE NEIGHBOUR: 'it returns false'. Refute it at one input. -/
def tablePlaysWrong : ChangeSpec := { name := "tablePlays", fn := fun _ => fun
  | [d1, d2] => { results := [.lit (.bool false)], args := [d1, d2] }
  | _ => none }
def TablePlaysWrongFalsely : Prop := tablePlaysRow.holds Try.pinned (OpenSpec.ofChange tablePlaysWrong)

/- THE SECOND FORM. 'bulk': how many values and letters a reading holds, each counted each time it is reached (what is shared counts as often as it is met; a slice's spare places count too). A statement '..UptoSaid' is the law's where the arguments, and the package variables that the reading takes, are together of bulk at most 1048576: NARROWER than '..Said'. Prove '..Said' where nothing that the law and all that it calls make is longer than what came in: it says more and counts as full. Else prove '..UptoSaid'. A law counts once. -/
mutual
def uptoBulk {H : Type} : DataW H → Nat
  | .lit (.string bytes) => bytes.length + 1
  | .lit _ => 1
  | .nil => 1
  | .ptr d => uptoBulk d + 1
  | .slice elems spare => uptoBulkAll elems + uptoBulkAll spare + 1
  | .agg parts => uptoBulkAll parts + 1
  | .iface _ d => uptoBulk d + 1
  | .map entries => uptoBulkEntries entries + 1
  | .held _ => 1
def uptoBulkAll {H : Type} : List (DataW H) → Nat
  | [] => 0
  | d :: r => uptoBulk d + uptoBulkAll r
def uptoBulkEntries {H : Type} : List (Lit × DataW H) → Nat
  | [] => 0
  | x :: r => uptoBulkEntry x + uptoBulkEntries r
def uptoBulkEntry {H : Type} : Lit × DataW H → Nat
  | (.string bytes, d) => bytes.length + uptoBulk d + 1
  | (_, d) => uptoBulk d + 1
 end
def uptoSmall : (H : Type) → List (DataW H) → Bool := fun _ ds => decide (uptoBulkAll ds ≤ 1048576)
def OpenSpec.upto (s : _root_.Go.ChangeSpec) : _root_.Go.OpenSpec := { _root_.Go.OpenSpec.ofChange s with cond := some uptoSmall }

/-- 'avocetlaw14.TableLays', WHERE WHAT IT READS IS OF BULK AT MOST 1048576: true; the input reads as it did. -/
def tableLaysUptoRow : OpenClaim := { program := "ytjdnkhgpnddncaa", sum := "1a705dd41a1910541f46c5378428a22e10d07282b7879a9e84e0a4d0ffdf30c9", func := "avocet/avocetlaw14.TableLays", spec := "tableLays", unfollowed := true, recurses := true, apart := false, narrowed := true }
def TableLaysUptoSaid : Prop := tableLaysUptoRow.holds Try.pinned (OpenSpec.upto tableLaysSpec)

/-- 'avocetlaw14.TableMany', WHERE WHAT IT READS IS OF BULK AT MOST 1048576: true; the input reads as it did. -/
def tableManyUptoRow : OpenClaim := { program := "ytjdnkhgpnddncaa", sum := "1a705dd41a1910541f46c5378428a22e10d07282b7879a9e84e0a4d0ffdf30c9", func := "avocet/avocetlaw14.TableMany", spec := "tableMany", unfollowed := true, recurses := true, apart := false, narrowed := true }
def TableManyUptoSaid : Prop := tableManyUptoRow.holds Try.pinned (OpenSpec.upto tableManySpec)

/-- 'avocetlaw14.TableGlobs', WHERE WHAT IT READS IS OF BULK AT MOST 1048576: true; the input reads as it did. -/
def tableGlobsUptoRow : OpenClaim := { program := "ytjdnkhgpnddncaa", sum := "1a705dd41a1910541f46c5378428a22e10d07282b7879a9e84e0a4d0ffdf30c9", func := "avocet/avocetlaw14.TableGlobs", spec := "tableGlobs", unfollowed := true, recurses := true, apart := false, narrowed := true }
def TableGlobsUptoSaid : Prop := tableGlobsUptoRow.holds Try.pinned (OpenSpec.upto tableGlobsSpec)

/-- 'avocetlaw14.TableTypes', WHERE WHAT IT READS IS OF BULK AT MOST 1048576: true; the input reads as it did. -/
def tableTypesUptoRow : OpenClaim := { program := "ytjdnkhgpnddncaa", sum := "1a705dd41a1910541f46c5378428a22e10d07282b7879a9e84e0a4d0ffdf30c9", func := "avocet/avocetlaw14.TableTypes", spec := "tableTypes", unfollowed := true, recurses := true, apart := false, narrowed := true }
def TableTypesUptoSaid : Prop := tableTypesUptoRow.holds Try.pinned (OpenSpec.upto tableTypesSpec)

/-- 'avocetlaw14.TablePlays', WHERE WHAT IT READS IS OF BULK AT MOST 1048576: true; the input reads as it did. -/
def tablePlaysUptoRow : OpenClaim := { program := "ytjdnkhgpnddncaa", sum := "1a705dd41a1910541f46c5378428a22e10d07282b7879a9e84e0a4d0ffdf30c9", func := "avocet/avocetlaw14.TablePlays", spec := "tablePlays", unfollowed := true, recurses := true, apart := false, narrowed := true }
def TablePlaysUptoSaid : Prop := tablePlaysUptoRow.holds Try.pinned (OpenSpec.upto tablePlaysSpec)

end Rows
end Go.Proofs.Ytjdnkhgpnddncaa
