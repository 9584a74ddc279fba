/-
  NARROWER THAN 'FOR EVERY INPUT', by the rows' own cells (each row's printed sentence says how): MemorySigns: laid · MemoryBack: laid · MemoryApart: laid · MemorySums: laid · MemoryGrows: laid · MemoryPlays: laid.
  DERIVED. THE GIVEN ROWS OF THIS SEAT. 6 by the template 'for every input the law returns true; each argument reads behind the call as it read before'; 0 by the template 'total and deterministic' (their statements: YtffoolhfjomhhaaDoorTotals.lean).
  GIVEN WITH THE SEED: the statements are not yours to turn. If you find one false, say at which input.
  Laid BY PROGRAM, IN A SANDBOX (cutbox-rows.mjs): the forced cells as the released guide's own fill.sh prints them over the translation 15afc1a8ab1886c4… (all of the seat's roots in one cut). By AI agents, Wed Nov 11 2026. No macro, syntax, notation, axiom, sorry.
-/
import Derived.Test.YtffoolhfjomhhaaDoorChecked
import GoSem.Claim
import GoSem.ClaimJoined
import GoSem.ClaimMapViews
import Derived.JoinedTies
import Derived.KernelRfl
namespace Go.Proofs.YtffoolhfjomhhaaDoor
/- THE CELL 'sum', in the pinned program and in every row, IS THE sha256 OF THE DUMP (.gsa) THAT YtffoolhfjomhhaaDoorProg.lean LOADS. Nothing in Lean hashes anything: it is a label: what it is worth is what the hold of that sum in a sandbox is worth. -/
noncomputable def Tryd.pinned : Pinned := { name := "ytffoolhfjomhhaadoor", sum := "15afc1a8ab1886c40df4f41674854114dc6f9625d834f8fa00218e797cb71a18", checked := Tryd.checked }
namespace Rows
def none {H : Type} : Left H := { results := [], args := [] }

/- WHAT THE LISTED PACKAGE-LEVEL VARIABLES READ AS WHEN THE CALL BEGINS. Each datum BY PROGRAM (the guide's laid-datum.mjs) off the statement by which the dump's own 'gosem.cut.vars' lays the variable. In a bare row this is a premise. The card (YtffoolhfjomhhaaDoorCards.lean) ties it to the program's text. -/
def laid_avocet_instr_rows {H : Type} : DataW H := .agg [.agg [.lit (.int .u8 127), .lit (.int .i64 4), .lit (.bool false), .lit (.bool false)], .agg [.lit (.int .u8 126), .lit (.int .i64 8), .lit (.bool false), .lit (.bool false)], .agg [.lit (.int .u8 0), .lit (.int .i64 0), .lit (.bool false), .lit (.bool false)], .agg [.lit (.int .u8 0), .lit (.int .i64 0), .lit (.bool false), .lit (.bool false)], .agg [.lit (.int .u8 127), .lit (.int .i64 1), .lit (.bool true), .lit (.bool false)], .agg [.lit (.int .u8 127), .lit (.int .i64 1), .lit (.bool false), .lit (.bool false)], .agg [.lit (.int .u8 127), .lit (.int .i64 2), .lit (.bool true), .lit (.bool false)], .agg [.lit (.int .u8 127), .lit (.int .i64 2), .lit (.bool false), .lit (.bool false)], .agg [.lit (.int .u8 126), .lit (.int .i64 1), .lit (.bool true), .lit (.bool false)], .agg [.lit (.int .u8 126), .lit (.int .i64 1), .lit (.bool false), .lit (.bool false)], .agg [.lit (.int .u8 126), .lit (.int .i64 2), .lit (.bool true), .lit (.bool false)], .agg [.lit (.int .u8 126), .lit (.int .i64 2), .lit (.bool false), .lit (.bool false)], .agg [.lit (.int .u8 126), .lit (.int .i64 4), .lit (.bool true), .lit (.bool false)], .agg [.lit (.int .u8 126), .lit (.int .i64 4), .lit (.bool false), .lit (.bool false)], .agg [.lit (.int .u8 127), .lit (.int .i64 4), .lit (.bool false), .lit (.bool true)], .agg [.lit (.int .u8 126), .lit (.int .i64 8), .lit (.bool false), .lit (.bool true)], .agg [.lit (.int .u8 0), .lit (.int .i64 0), .lit (.bool false), .lit (.bool false)], .agg [.lit (.int .u8 0), .lit (.int .i64 0), .lit (.bool false), .lit (.bool false)], .agg [.lit (.int .u8 127), .lit (.int .i64 1), .lit (.bool false), .lit (.bool true)], .agg [.lit (.int .u8 127), .lit (.int .i64 2), .lit (.bool false), .lit (.bool true)], .agg [.lit (.int .u8 126), .lit (.int .i64 1), .lit (.bool false), .lit (.bool true)], .agg [.lit (.int .u8 126), .lit (.int .i64 2), .lit (.bool false), .lit (.bool true)], .agg [.lit (.int .u8 126), .lit (.int .i64 4), .lit (.bool false), .lit (.bool true)]]

/-- 'avocetlaw13.MemorySigns': WHATEVER THE INPUT: true; the input reads as it did. -/
def memorySignsSpec : ChangeSpec := { name := "memorySigns", fn := fun _ => fun
  | [d1, d2, d3] => { results := [.lit (.bool true)], args := [d1, d2, d3] }
  | _ => none }
def memorySignsRow : OpenClaim := { program := "ytffoolhfjomhhaadoor", sum := "15afc1a8ab1886c40df4f41674854114dc6f9625d834f8fa00218e797cb71a18", func := "avocet/avocetlaw13.MemorySigns", spec := "memorySigns", named := ["avocet/instr.rows"], apart := false, laid := [("avocet/instr.rows", laid_avocet_instr_rows)] }
def MemorySignsSaid : Prop := memorySignsRow.holds Tryd.pinned (OpenSpec.ofChange memorySignsSpec)

/-- ITS FALSE NEIGHBOUR: 'it returns false'. Refute it at one input. -/
def memorySignsWrong : ChangeSpec := { name := "memorySigns", fn := fun _ => fun
  | [d1, d2, d3] => { results := [.lit (.bool false)], args := [d1, d2, d3] }
  | _ => none }
def MemorySignsWrongFalsely : Prop := memorySignsRow.holds Tryd.pinned (OpenSpec.ofChange memorySignsWrong)

/-- 'avocetlaw13.MemoryBack': WHATEVER THE INPUT: true; the input reads as it did. -/
def memoryBackSpec : ChangeSpec := { name := "memoryBack", fn := fun _ => fun
  | [d1, d2, d3, d4, d5] => { results := [.lit (.bool true)], args := [d1, d2, d3, d4, d5] }
  | _ => none }
def memoryBackRow : OpenClaim := { program := "ytffoolhfjomhhaadoor", sum := "15afc1a8ab1886c40df4f41674854114dc6f9625d834f8fa00218e797cb71a18", func := "avocet/avocetlaw13.MemoryBack", spec := "memoryBack", named := ["avocet/instr.rows"], apart := false, laid := [("avocet/instr.rows", laid_avocet_instr_rows)] }
def MemoryBackSaid : Prop := memoryBackRow.holds Tryd.pinned (OpenSpec.ofChange memoryBackSpec)

/-- ITS FALSE NEIGHBOUR: 'it returns false'. Refute it at one input. -/
def memoryBackWrong : ChangeSpec := { name := "memoryBack", fn := fun _ => fun
  | [d1, d2, d3, d4, d5] => { results := [.lit (.bool false)], args := [d1, d2, d3, d4, d5] }
  | _ => none }
def MemoryBackWrongFalsely : Prop := memoryBackRow.holds Tryd.pinned (OpenSpec.ofChange memoryBackWrong)

/-- 'avocetlaw13.MemoryApart': WHATEVER THE INPUT: true; the input reads as it did. -/
def memoryApartSpec : ChangeSpec := { name := "memoryApart", fn := fun _ => fun
  | [d1, d2] => { results := [.lit (.bool true)], args := [d1, d2] }
  | _ => none }
def memoryApartRow : OpenClaim := { program := "ytffoolhfjomhhaadoor", sum := "15afc1a8ab1886c40df4f41674854114dc6f9625d834f8fa00218e797cb71a18", func := "avocet/avocetlaw13.MemoryApart", spec := "memoryApart", named := ["avocet/instr.rows"], apart := false, laid := [("avocet/instr.rows", laid_avocet_instr_rows)] }
def MemoryApartSaid : Prop := memoryApartRow.holds Tryd.pinned (OpenSpec.ofChange memoryApartSpec)

/-- ITS FALSE NEIGHBOUR: 'it returns false'. Refute it at one input. -/
def memoryApartWrong : ChangeSpec := { name := "memoryApart", fn := fun _ => fun
  | [d1, d2] => { results := [.lit (.bool false)], args := [d1, d2] }
  | _ => none }
def MemoryApartWrongFalsely : Prop := memoryApartRow.holds Tryd.pinned (OpenSpec.ofChange memoryApartWrong)

/-- 'avocetlaw13.MemorySums': WHATEVER THE INPUT: true; the input reads as it did. -/
def memorySumsSpec : ChangeSpec := { name := "memorySums", fn := fun _ => fun
  | [d1, d2, d3] => { results := [.lit (.bool true)], args := [d1, d2, d3] }
  | _ => none }
def memorySumsRow : OpenClaim := { program := "ytffoolhfjomhhaadoor", sum := "15afc1a8ab1886c40df4f41674854114dc6f9625d834f8fa00218e797cb71a18", func := "avocet/avocetlaw13.MemorySums", spec := "memorySums", named := ["avocet/instr.rows"], apart := false, laid := [("avocet/instr.rows", laid_avocet_instr_rows)] }
def MemorySumsSaid : Prop := memorySumsRow.holds Tryd.pinned (OpenSpec.ofChange memorySumsSpec)

/-- ITS FALSE NEIGHBOUR: 'it returns false'. Refute it at one input. -/
def memorySumsWrong : ChangeSpec := { name := "memorySums", fn := fun _ => fun
  | [d1, d2, d3] => { results := [.lit (.bool false)], args := [d1, d2, d3] }
  | _ => none }
def MemorySumsWrongFalsely : Prop := memorySumsRow.holds Tryd.pinned (OpenSpec.ofChange memorySumsWrong)

/-- 'avocetlaw13.MemoryGrows': WHATEVER THE INPUT: true; the input reads as it did. -/
def memoryGrowsSpec : ChangeSpec := { name := "memoryGrows", fn := fun _ => fun
  | [d1, d2, d3] => { results := [.lit (.bool true)], args := [d1, d2, d3] }
  | _ => none }
def memoryGrowsRow : OpenClaim := { program := "ytffoolhfjomhhaadoor", sum := "15afc1a8ab1886c40df4f41674854114dc6f9625d834f8fa00218e797cb71a18", func := "avocet/avocetlaw13.MemoryGrows", spec := "memoryGrows", named := ["avocet/instr.rows"], apart := false, laid := [("avocet/instr.rows", laid_avocet_instr_rows)] }
def MemoryGrowsSaid : Prop := memoryGrowsRow.holds Tryd.pinned (OpenSpec.ofChange memoryGrowsSpec)

/-- ITS FALSE NEIGHBOUR: 'it returns false'. Refute it at one input. -/
def memoryGrowsWrong : ChangeSpec := { name := "memoryGrows", fn := fun _ => fun
  | [d1, d2, d3] => { results := [.lit (.bool false)], args := [d1, d2, d3] }
  | _ => none }
def MemoryGrowsWrongFalsely : Prop := memoryGrowsRow.holds Tryd.pinned (OpenSpec.ofChange memoryGrowsWrong)

/-- 'avocetlaw13.MemoryPlays': WHATEVER THE INPUT: true; the input reads as it did. -/
def memoryPlaysSpec : ChangeSpec := { name := "memoryPlays", fn := fun _ => fun
  | [d1, d2] => { results := [.lit (.bool true)], args := [d1, d2] }
  | _ => none }
def memoryPlaysRow : OpenClaim := { program := "ytffoolhfjomhhaadoor", sum := "15afc1a8ab1886c40df4f41674854114dc6f9625d834f8fa00218e797cb71a18", func := "avocet/avocetlaw13.MemoryPlays", spec := "memoryPlays", named := ["avocet/instr.rows"], apart := false, laid := [("avocet/instr.rows", laid_avocet_instr_rows)] }
def MemoryPlaysSaid : Prop := memoryPlaysRow.holds Tryd.pinned (OpenSpec.ofChange memoryPlaysSpec)

/-- ITS FALSE NEIGHBOUR: 'it returns false'. Refute it at one input. -/
def memoryPlaysWrong : ChangeSpec := { name := "memoryPlays", fn := fun _ => fun
  | [d1, d2] => { results := [.lit (.bool false)], args := [d1, d2] }
  | _ => none }
def MemoryPlaysWrongFalsely : Prop := memoryPlaysRow.holds Tryd.pinned (OpenSpec.ofChange memoryPlaysWrong)

/- THE SECOND FORM. 'bulk': how many values and letters a reading holds, each counted each time it is reached (what is shared counts as often as it is met; a slice's spare places count too). A statement '..UptoSaid' is the law's where the arguments, and the package variables that the reading takes, are together of bulk at most 1048576: NARROWER than '..Said'. Prove '..Said' where nothing that the law and all that it calls make is longer than what came in: it says more and counts as full. Else prove '..UptoSaid'. A law counts once. -/
mutual
def uptoBulk {H : Type} : DataW H → Nat
  | .lit (.string bytes) => bytes.length + 1
  | .lit _ => 1
  | .nil => 1
  | .ptr d => uptoBulk d + 1
  | .slice elems spare => uptoBulkAll elems + uptoBulkAll spare + 1
  | .agg parts => uptoBulkAll parts + 1
  | .iface _ d => uptoBulk d + 1
  | .map entries => uptoBulkEntries entries + 1
  | .held _ => 1
def uptoBulkAll {H : Type} : List (DataW H) → Nat
  | [] => 0
  | d :: r => uptoBulk d + uptoBulkAll r
def uptoBulkEntries {H : Type} : List (Lit × DataW H) → Nat
  | [] => 0
  | x :: r => uptoBulkEntry x + uptoBulkEntries r
def uptoBulkEntry {H : Type} : Lit × DataW H → Nat
  | (.string bytes, d) => bytes.length + uptoBulk d + 1
  | (_, d) => uptoBulk d + 1
 end
def uptoSmall : (H : Type) → List (DataW H) → Bool := fun _ ds => decide (uptoBulkAll ds ≤ 1048576)
def OpenSpec.upto (s : _root_.Go.ChangeSpec) : _root_.Go.OpenSpec := { _root_.Go.OpenSpec.ofChange s with cond := some uptoSmall }

/-- 'avocetlaw13.MemorySigns', WHERE WHAT IT READS IS OF BULK AT MOST 1048576: true; the input reads as it did. -/
def memorySignsUptoRow : OpenClaim := { program := "ytffoolhfjomhhaadoor", sum := "15afc1a8ab1886c40df4f41674854114dc6f9625d834f8fa00218e797cb71a18", func := "avocet/avocetlaw13.MemorySigns", spec := "memorySigns", named := ["avocet/instr.rows"], apart := false, laid := [("avocet/instr.rows", laid_avocet_instr_rows)], narrowed := true }
def MemorySignsUptoSaid : Prop := memorySignsUptoRow.holds Tryd.pinned (OpenSpec.upto memorySignsSpec)

/-- 'avocetlaw13.MemoryBack', WHERE WHAT IT READS IS OF BULK AT MOST 1048576: true; the input reads as it did. -/
def memoryBackUptoRow : OpenClaim := { program := "ytffoolhfjomhhaadoor", sum := "15afc1a8ab1886c40df4f41674854114dc6f9625d834f8fa00218e797cb71a18", func := "avocet/avocetlaw13.MemoryBack", spec := "memoryBack", named := ["avocet/instr.rows"], apart := false, laid := [("avocet/instr.rows", laid_avocet_instr_rows)], narrowed := true }
def MemoryBackUptoSaid : Prop := memoryBackUptoRow.holds Tryd.pinned (OpenSpec.upto memoryBackSpec)

/-- 'avocetlaw13.MemoryApart', WHERE WHAT IT READS IS OF BULK AT MOST 1048576: true; the input reads as it did. -/
def memoryApartUptoRow : OpenClaim := { program := "ytffoolhfjomhhaadoor", sum := "15afc1a8ab1886c40df4f41674854114dc6f9625d834f8fa00218e797cb71a18", func := "avocet/avocetlaw13.MemoryApart", spec := "memoryApart", named := ["avocet/instr.rows"], apart := false, laid := [("avocet/instr.rows", laid_avocet_instr_rows)], narrowed := true }
def MemoryApartUptoSaid : Prop := memoryApartUptoRow.holds Tryd.pinned (OpenSpec.upto memoryApartSpec)

/-- 'avocetlaw13.MemorySums', WHERE WHAT IT READS IS OF BULK AT MOST 1048576: true; the input reads as it did. -/
def memorySumsUptoRow : OpenClaim := { program := "ytffoolhfjomhhaadoor", sum := "15afc1a8ab1886c40df4f41674854114dc6f9625d834f8fa00218e797cb71a18", func := "avocet/avocetlaw13.MemorySums", spec := "memorySums", named := ["avocet/instr.rows"], apart := false, laid := [("avocet/instr.rows", laid_avocet_instr_rows)], narrowed := true }
def MemorySumsUptoSaid : Prop := memorySumsUptoRow.holds Tryd.pinned (OpenSpec.upto memorySumsSpec)

/-- 'avocetlaw13.MemoryGrows', WHERE WHAT IT READS IS OF BULK AT MOST 1048576: true; the input reads as it did. -/
def memoryGrowsUptoRow : OpenClaim := { program := "ytffoolhfjomhhaadoor", sum := "15afc1a8ab1886c40df4f41674854114dc6f9625d834f8fa00218e797cb71a18", func := "avocet/avocetlaw13.MemoryGrows", spec := "memoryGrows", named := ["avocet/instr.rows"], apart := false, laid := [("avocet/instr.rows", laid_avocet_instr_rows)], narrowed := true }
def MemoryGrowsUptoSaid : Prop := memoryGrowsUptoRow.holds Tryd.pinned (OpenSpec.upto memoryGrowsSpec)

/-- 'avocetlaw13.MemoryPlays', WHERE WHAT IT READS IS OF BULK AT MOST 1048576: true; the input reads as it did. -/
def memoryPlaysUptoRow : OpenClaim := { program := "ytffoolhfjomhhaadoor", sum := "15afc1a8ab1886c40df4f41674854114dc6f9625d834f8fa00218e797cb71a18", func := "avocet/avocetlaw13.MemoryPlays", spec := "memoryPlays", named := ["avocet/instr.rows"], apart := false, laid := [("avocet/instr.rows", laid_avocet_instr_rows)], narrowed := true }
def MemoryPlaysUptoSaid : Prop := memoryPlaysUptoRow.holds Tryd.pinned (OpenSpec.upto memoryPlaysSpec)

end Rows
end Go.Proofs.YtffoolhfjomhhaaDoor
