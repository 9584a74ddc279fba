/-
  NARROWER THAN 'FOR EVERY INPUT', by the rows' own cells (each row's printed sentence says how): IntsTypes: laid · IntsDo: laid · IntsTurn: laid · IntsOrder: laid · IntsAlone: laid · IntsCount: laid · IntsDivide: laid · IntsValues: laid · IntsWrap: laid · IntsShape: laid.
  DERIVED. THE GIVEN ROWS OF THIS SEAT. 10 by the template 'for every input the law returns true; each argument reads behind the call as it read before'; 0 by the template 'total and deterministic' (their statements: YtjonlcnmpejamaaDoorTotals.lean).
  GIVEN WITH THE SEED: the statements are not yours to turn. If you find one false, say at which input.
  Laid BY PROGRAM, IN A SANDBOX (cutbox-rows.mjs): the forced cells as the released guide's own fill.sh prints them over the translation 7e8c76768f4f66c7… (all of the seat's roots in one cut). By AI agents, Wed Nov 11 2026. No macro, syntax, notation, axiom, sorry.
-/
import Derived.Test.YtjonlcnmpejamaaDoorChecked
import GoSem.Claim
import GoSem.ClaimJoined
import GoSem.ClaimMapViews
import Derived.JoinedTies
import Derived.KernelRfl
namespace Go.Proofs.YtjonlcnmpejamaaDoor
/- THE CELL 'sum', in the pinned program and in every row, IS THE sha256 OF THE DUMP (.gsa) THAT YtjonlcnmpejamaaDoorProg.lean LOADS. Nothing in Lean hashes anything: it is a label: what it is worth is what the hold of that sum in a sandbox is worth. -/
noncomputable def Tryd.pinned : Pinned := { name := "ytjonlcnmpejamaadoor", sum := "7e8c76768f4f66c7dfbae5afb25e76955f8d845c18a0018580b151b22ba3eb49", checked := Tryd.checked }
namespace Rows
def none {H : Type} : Left H := { results := [], args := [] }

/- WHAT THE LISTED PACKAGE-LEVEL VARIABLES READ AS WHEN THE CALL BEGINS. Each datum BY PROGRAM (the guide's laid-datum.mjs) off the statement by which the dump's own 'gosem.cut.vars' lays the variable. In a bare row this is a premise. The card (YtjonlcnmpejamaaDoorCards.lean) ties it to the program's text. -/
def laid_math_bits_deBruijn32tab {H : Type} : DataW H := .agg [.lit (.int .u8 0), .lit (.int .u8 1), .lit (.int .u8 28), .lit (.int .u8 2), .lit (.int .u8 29), .lit (.int .u8 14), .lit (.int .u8 24), .lit (.int .u8 3), .lit (.int .u8 30), .lit (.int .u8 22), .lit (.int .u8 20), .lit (.int .u8 15), .lit (.int .u8 25), .lit (.int .u8 17), .lit (.int .u8 4), .lit (.int .u8 8), .lit (.int .u8 31), .lit (.int .u8 27), .lit (.int .u8 13), .lit (.int .u8 23), .lit (.int .u8 21), .lit (.int .u8 19), .lit (.int .u8 16), .lit (.int .u8 7), .lit (.int .u8 26), .lit (.int .u8 12), .lit (.int .u8 18), .lit (.int .u8 6), .lit (.int .u8 11), .lit (.int .u8 5), .lit (.int .u8 10), .lit (.int .u8 9)]
def laid_math_bits_deBruijn64tab {H : Type} : DataW H := .agg [.lit (.int .u8 0), .lit (.int .u8 1), .lit (.int .u8 56), .lit (.int .u8 2), .lit (.int .u8 57), .lit (.int .u8 49), .lit (.int .u8 28), .lit (.int .u8 3), .lit (.int .u8 61), .lit (.int .u8 58), .lit (.int .u8 42), .lit (.int .u8 50), .lit (.int .u8 38), .lit (.int .u8 29), .lit (.int .u8 17), .lit (.int .u8 4), .lit (.int .u8 62), .lit (.int .u8 47), .lit (.int .u8 59), .lit (.int .u8 36), .lit (.int .u8 45), .lit (.int .u8 43), .lit (.int .u8 51), .lit (.int .u8 22), .lit (.int .u8 53), .lit (.int .u8 39), .lit (.int .u8 33), .lit (.int .u8 30), .lit (.int .u8 24), .lit (.int .u8 18), .lit (.int .u8 12), .lit (.int .u8 5), .lit (.int .u8 63), .lit (.int .u8 55), .lit (.int .u8 48), .lit (.int .u8 27), .lit (.int .u8 60), .lit (.int .u8 41), .lit (.int .u8 37), .lit (.int .u8 16), .lit (.int .u8 46), .lit (.int .u8 35), .lit (.int .u8 44), .lit (.int .u8 21), .lit (.int .u8 52), .lit (.int .u8 32), .lit (.int .u8 23), .lit (.int .u8 11), .lit (.int .u8 54), .lit (.int .u8 26), .lit (.int .u8 40), .lit (.int .u8 15), .lit (.int .u8 34), .lit (.int .u8 20), .lit (.int .u8 31), .lit (.int .u8 10), .lit (.int .u8 25), .lit (.int .u8 14), .lit (.int .u8 19), .lit (.int .u8 9), .lit (.int .u8 13), .lit (.int .u8 8), .lit (.int .u8 7), .lit (.int .u8 6)]

/-- 'avocetlaw02.IntsTypes': WHATEVER THE INPUT: true; the input reads as it did. -/
def intsTypesSpec : ChangeSpec := { name := "intsTypes", fn := fun _ => fun
  | [d1, d2, d3] => { results := [.lit (.bool true)], args := [d1, d2, d3] }
  | _ => none }
def intsTypesRow : OpenClaim := { program := "ytjonlcnmpejamaadoor", sum := "7e8c76768f4f66c7dfbae5afb25e76955f8d845c18a0018580b151b22ba3eb49", func := "avocet/avocetlaw02.IntsTypes", spec := "intsTypes", unfollowed := true, recurses := true, named := ["math/bits.deBruijn32tab", "math/bits.deBruijn64tab"], apart := false, laid := [("math/bits.deBruijn32tab", laid_math_bits_deBruijn32tab), ("math/bits.deBruijn64tab", laid_math_bits_deBruijn64tab)] }
def IntsTypesSaid : Prop := intsTypesRow.holds Tryd.pinned (OpenSpec.ofChange intsTypesSpec)

/-- ITS FALSE NEIGHBOUR: 'it returns false'. Refute it at one input. -/
def intsTypesWrong : ChangeSpec := { name := "intsTypes", fn := fun _ => fun
  | [d1, d2, d3] => { results := [.lit (.bool false)], args := [d1, d2, d3] }
  | _ => none }
def IntsTypesWrongFalsely : Prop := intsTypesRow.holds Tryd.pinned (OpenSpec.ofChange intsTypesWrong)

/-- 'avocetlaw02.IntsDo': WHATEVER THE INPUT: true; the input reads as it did. -/
def intsDoSpec : ChangeSpec := { name := "intsDo", fn := fun _ => fun
  | [d1, d2, d3] => { results := [.lit (.bool true)], args := [d1, d2, d3] }
  | _ => none }
def intsDoRow : OpenClaim := { program := "ytjonlcnmpejamaadoor", sum := "7e8c76768f4f66c7dfbae5afb25e76955f8d845c18a0018580b151b22ba3eb49", func := "avocet/avocetlaw02.IntsDo", spec := "intsDo", unfollowed := true, recurses := true, named := ["math/bits.deBruijn32tab", "math/bits.deBruijn64tab"], apart := false, laid := [("math/bits.deBruijn32tab", laid_math_bits_deBruijn32tab), ("math/bits.deBruijn64tab", laid_math_bits_deBruijn64tab)] }
def IntsDoSaid : Prop := intsDoRow.holds Tryd.pinned (OpenSpec.ofChange intsDoSpec)

/-- ITS FALSE NEIGHBOUR: 'it returns false'. Refute it at one input. -/
def intsDoWrong : ChangeSpec := { name := "intsDo", fn := fun _ => fun
  | [d1, d2, d3] => { results := [.lit (.bool false)], args := [d1, d2, d3] }
  | _ => none }
def IntsDoWrongFalsely : Prop := intsDoRow.holds Tryd.pinned (OpenSpec.ofChange intsDoWrong)

/-- 'avocetlaw02.IntsTurn': WHATEVER THE INPUT: true; the input reads as it did. -/
def intsTurnSpec : ChangeSpec := { name := "intsTurn", fn := fun _ => fun
  | [d1, d2, d3] => { results := [.lit (.bool true)], args := [d1, d2, d3] }
  | _ => none }
def intsTurnRow : OpenClaim := { program := "ytjonlcnmpejamaadoor", sum := "7e8c76768f4f66c7dfbae5afb25e76955f8d845c18a0018580b151b22ba3eb49", func := "avocet/avocetlaw02.IntsTurn", spec := "intsTurn", unfollowed := true, recurses := true, named := ["math/bits.deBruijn32tab", "math/bits.deBruijn64tab"], apart := false, laid := [("math/bits.deBruijn32tab", laid_math_bits_deBruijn32tab), ("math/bits.deBruijn64tab", laid_math_bits_deBruijn64tab)] }
def IntsTurnSaid : Prop := intsTurnRow.holds Tryd.pinned (OpenSpec.ofChange intsTurnSpec)

/-- ITS FALSE NEIGHBOUR: 'it returns false'. Refute it at one input. -/
def intsTurnWrong : ChangeSpec := { name := "intsTurn", fn := fun _ => fun
  | [d1, d2, d3] => { results := [.lit (.bool false)], args := [d1, d2, d3] }
  | _ => none }
def IntsTurnWrongFalsely : Prop := intsTurnRow.holds Tryd.pinned (OpenSpec.ofChange intsTurnWrong)

/-- 'avocetlaw02.IntsOrder': WHATEVER THE INPUT: true; the input reads as it did. -/
def intsOrderSpec : ChangeSpec := { name := "intsOrder", fn := fun _ => fun
  | [d1, d2, d3] => { results := [.lit (.bool true)], args := [d1, d2, d3] }
  | _ => none }
def intsOrderRow : OpenClaim := { program := "ytjonlcnmpejamaadoor", sum := "7e8c76768f4f66c7dfbae5afb25e76955f8d845c18a0018580b151b22ba3eb49", func := "avocet/avocetlaw02.IntsOrder", spec := "intsOrder", unfollowed := true, recurses := true, named := ["math/bits.deBruijn32tab", "math/bits.deBruijn64tab"], apart := false, laid := [("math/bits.deBruijn32tab", laid_math_bits_deBruijn32tab), ("math/bits.deBruijn64tab", laid_math_bits_deBruijn64tab)] }
def IntsOrderSaid : Prop := intsOrderRow.holds Tryd.pinned (OpenSpec.ofChange intsOrderSpec)

/-- ITS FALSE NEIGHBOUR: 'it returns false'. Refute it at one input. -/
def intsOrderWrong : ChangeSpec := { name := "intsOrder", fn := fun _ => fun
  | [d1, d2, d3] => { results := [.lit (.bool false)], args := [d1, d2, d3] }
  | _ => none }
def IntsOrderWrongFalsely : Prop := intsOrderRow.holds Tryd.pinned (OpenSpec.ofChange intsOrderWrong)

/-- 'avocetlaw02.IntsAlone': WHATEVER THE INPUT: true; the input reads as it did. -/
def intsAloneSpec : ChangeSpec := { name := "intsAlone", fn := fun _ => fun
  | [d1, d2] => { results := [.lit (.bool true)], args := [d1, d2] }
  | _ => none }
def intsAloneRow : OpenClaim := { program := "ytjonlcnmpejamaadoor", sum := "7e8c76768f4f66c7dfbae5afb25e76955f8d845c18a0018580b151b22ba3eb49", func := "avocet/avocetlaw02.IntsAlone", spec := "intsAlone", unfollowed := true, recurses := true, named := ["math/bits.deBruijn32tab", "math/bits.deBruijn64tab"], apart := false, laid := [("math/bits.deBruijn32tab", laid_math_bits_deBruijn32tab), ("math/bits.deBruijn64tab", laid_math_bits_deBruijn64tab)] }
def IntsAloneSaid : Prop := intsAloneRow.holds Tryd.pinned (OpenSpec.ofChange intsAloneSpec)

/-- ITS FALSE NEIGHBOUR: 'it returns false'. Refute it at one input. -/
def intsAloneWrong : ChangeSpec := { name := "intsAlone", fn := fun _ => fun
  | [d1, d2] => { results := [.lit (.bool false)], args := [d1, d2] }
  | _ => none }
def IntsAloneWrongFalsely : Prop := intsAloneRow.holds Tryd.pinned (OpenSpec.ofChange intsAloneWrong)

/-- 'avocetlaw02.IntsCount': WHATEVER THE INPUT: true; the input reads as it did. -/
def intsCountSpec : ChangeSpec := { name := "intsCount", fn := fun _ => fun
  | [d1, d2, d3] => { results := [.lit (.bool true)], args := [d1, d2, d3] }
  | _ => none }
def intsCountRow : OpenClaim := { program := "ytjonlcnmpejamaadoor", sum := "7e8c76768f4f66c7dfbae5afb25e76955f8d845c18a0018580b151b22ba3eb49", func := "avocet/avocetlaw02.IntsCount", spec := "intsCount", unfollowed := true, recurses := true, named := ["math/bits.deBruijn32tab", "math/bits.deBruijn64tab"], apart := false, laid := [("math/bits.deBruijn32tab", laid_math_bits_deBruijn32tab), ("math/bits.deBruijn64tab", laid_math_bits_deBruijn64tab)] }
def IntsCountSaid : Prop := intsCountRow.holds Tryd.pinned (OpenSpec.ofChange intsCountSpec)

/-- ITS FALSE NEIGHBOUR: 'it returns false'. Refute it at one input. -/
def intsCountWrong : ChangeSpec := { name := "intsCount", fn := fun _ => fun
  | [d1, d2, d3] => { results := [.lit (.bool false)], args := [d1, d2, d3] }
  | _ => none }
def IntsCountWrongFalsely : Prop := intsCountRow.holds Tryd.pinned (OpenSpec.ofChange intsCountWrong)

/-- 'avocetlaw02.IntsDivide': WHATEVER THE INPUT: true; the input reads as it did. -/
def intsDivideSpec : ChangeSpec := { name := "intsDivide", fn := fun _ => fun
  | [d1, d2, d3, d4] => { results := [.lit (.bool true)], args := [d1, d2, d3, d4] }
  | _ => none }
def intsDivideRow : OpenClaim := { program := "ytjonlcnmpejamaadoor", sum := "7e8c76768f4f66c7dfbae5afb25e76955f8d845c18a0018580b151b22ba3eb49", func := "avocet/avocetlaw02.IntsDivide", spec := "intsDivide", unfollowed := true, recurses := true, named := ["math/bits.deBruijn32tab", "math/bits.deBruijn64tab"], apart := false, laid := [("math/bits.deBruijn32tab", laid_math_bits_deBruijn32tab), ("math/bits.deBruijn64tab", laid_math_bits_deBruijn64tab)] }
def IntsDivideSaid : Prop := intsDivideRow.holds Tryd.pinned (OpenSpec.ofChange intsDivideSpec)

/-- ITS FALSE NEIGHBOUR: 'it returns false'. Refute it at one input. -/
def intsDivideWrong : ChangeSpec := { name := "intsDivide", fn := fun _ => fun
  | [d1, d2, d3, d4] => { results := [.lit (.bool false)], args := [d1, d2, d3, d4] }
  | _ => none }
def IntsDivideWrongFalsely : Prop := intsDivideRow.holds Tryd.pinned (OpenSpec.ofChange intsDivideWrong)

/-- 'avocetlaw02.IntsValues': WHATEVER THE INPUT: true; the input reads as it did. -/
def intsValuesSpec : ChangeSpec := { name := "intsValues", fn := fun _ => fun
  | [d1, d2, d3] => { results := [.lit (.bool true)], args := [d1, d2, d3] }
  | _ => none }
def intsValuesRow : OpenClaim := { program := "ytjonlcnmpejamaadoor", sum := "7e8c76768f4f66c7dfbae5afb25e76955f8d845c18a0018580b151b22ba3eb49", func := "avocet/avocetlaw02.IntsValues", spec := "intsValues", unfollowed := true, recurses := true, named := ["math/bits.deBruijn32tab", "math/bits.deBruijn64tab"], apart := false, laid := [("math/bits.deBruijn32tab", laid_math_bits_deBruijn32tab), ("math/bits.deBruijn64tab", laid_math_bits_deBruijn64tab)] }
def IntsValuesSaid : Prop := intsValuesRow.holds Tryd.pinned (OpenSpec.ofChange intsValuesSpec)

/-- ITS FALSE NEIGHBOUR: 'it returns false'. Refute it at one input. -/
def intsValuesWrong : ChangeSpec := { name := "intsValues", fn := fun _ => fun
  | [d1, d2, d3] => { results := [.lit (.bool false)], args := [d1, d2, d3] }
  | _ => none }
def IntsValuesWrongFalsely : Prop := intsValuesRow.holds Tryd.pinned (OpenSpec.ofChange intsValuesWrong)

/-- 'avocetlaw02.IntsWrap': WHATEVER THE INPUT: true; the input reads as it did. -/
def intsWrapSpec : ChangeSpec := { name := "intsWrap", fn := fun _ => fun
  | [d] => { results := [.lit (.bool true)], args := [d] }
  | _ => none }
def intsWrapRow : OpenClaim := { program := "ytjonlcnmpejamaadoor", sum := "7e8c76768f4f66c7dfbae5afb25e76955f8d845c18a0018580b151b22ba3eb49", func := "avocet/avocetlaw02.IntsWrap", spec := "intsWrap", unfollowed := true, recurses := true, named := ["math/bits.deBruijn32tab", "math/bits.deBruijn64tab"], apart := false, laid := [("math/bits.deBruijn32tab", laid_math_bits_deBruijn32tab), ("math/bits.deBruijn64tab", laid_math_bits_deBruijn64tab)] }
def IntsWrapSaid : Prop := intsWrapRow.holds Tryd.pinned (OpenSpec.ofChange intsWrapSpec)

/-- ITS FALSE NEIGHBOUR: 'it returns false'. Refute it at one input. -/
def intsWrapWrong : ChangeSpec := { name := "intsWrap", fn := fun _ => fun
  | [d] => { results := [.lit (.bool false)], args := [d] }
  | _ => none }
def IntsWrapWrongFalsely : Prop := intsWrapRow.holds Tryd.pinned (OpenSpec.ofChange intsWrapWrong)

/-- 'avocetlaw02.IntsShape': WHATEVER THE INPUT: true; the input reads as it did. -/
def intsShapeSpec : ChangeSpec := { name := "intsShape", fn := fun _ => fun
  | [d] => { results := [.lit (.bool true)], args := [d] }
  | _ => none }
def intsShapeRow : OpenClaim := { program := "ytjonlcnmpejamaadoor", sum := "7e8c76768f4f66c7dfbae5afb25e76955f8d845c18a0018580b151b22ba3eb49", func := "avocet/avocetlaw02.IntsShape", spec := "intsShape", unfollowed := true, recurses := true, named := ["math/bits.deBruijn32tab", "math/bits.deBruijn64tab"], apart := false, laid := [("math/bits.deBruijn32tab", laid_math_bits_deBruijn32tab), ("math/bits.deBruijn64tab", laid_math_bits_deBruijn64tab)] }
def IntsShapeSaid : Prop := intsShapeRow.holds Tryd.pinned (OpenSpec.ofChange intsShapeSpec)

/-- ITS FALSE NEIGHBOUR: 'it returns false'. Refute it at one input. -/
def intsShapeWrong : ChangeSpec := { name := "intsShape", fn := fun _ => fun
  | [d] => { results := [.lit (.bool false)], args := [d] }
  | _ => none }
def IntsShapeWrongFalsely : Prop := intsShapeRow.holds Tryd.pinned (OpenSpec.ofChange intsShapeWrong)

/- THE SECOND FORM. 'bulk': how many values and letters a reading holds, each counted each time it is reached (what is shared counts as often as it is met; a slice's spare places count too). A statement '..UptoSaid' is the law's where the arguments, and the package variables that the reading takes, are together of bulk at most 1048576: NARROWER than '..Said'. Prove '..Said' where nothing that the law and all that it calls make is longer than what came in: it says more and counts as full. Else prove '..UptoSaid'. A law counts once. -/
mutual
def uptoBulk {H : Type} : DataW H → Nat
  | .lit (.string bytes) => bytes.length + 1
  | .lit _ => 1
  | .nil => 1
  | .ptr d => uptoBulk d + 1
  | .slice elems spare => uptoBulkAll elems + uptoBulkAll spare + 1
  | .agg parts => uptoBulkAll parts + 1
  | .iface _ d => uptoBulk d + 1
  | .map entries => uptoBulkEntries entries + 1
  | .held _ => 1
def uptoBulkAll {H : Type} : List (DataW H) → Nat
  | [] => 0
  | d :: r => uptoBulk d + uptoBulkAll r
def uptoBulkEntries {H : Type} : List (Lit × DataW H) → Nat
  | [] => 0
  | x :: r => uptoBulkEntry x + uptoBulkEntries r
def uptoBulkEntry {H : Type} : Lit × DataW H → Nat
  | (.string bytes, d) => bytes.length + uptoBulk d + 1
  | (_, d) => uptoBulk d + 1
 end
def uptoSmall : (H : Type) → List (DataW H) → Bool := fun _ ds => decide (uptoBulkAll ds ≤ 1048576)
def OpenSpec.upto (s : _root_.Go.ChangeSpec) : _root_.Go.OpenSpec := { _root_.Go.OpenSpec.ofChange s with cond := some uptoSmall }

/-- 'avocetlaw02.IntsTypes', WHERE WHAT IT READS IS OF BULK AT MOST 1048576: true; the input reads as it did. -/
def intsTypesUptoRow : OpenClaim := { program := "ytjonlcnmpejamaadoor", sum := "7e8c76768f4f66c7dfbae5afb25e76955f8d845c18a0018580b151b22ba3eb49", func := "avocet/avocetlaw02.IntsTypes", spec := "intsTypes", unfollowed := true, recurses := true, named := ["math/bits.deBruijn32tab", "math/bits.deBruijn64tab"], apart := false, laid := [("math/bits.deBruijn32tab", laid_math_bits_deBruijn32tab), ("math/bits.deBruijn64tab", laid_math_bits_deBruijn64tab)], narrowed := true }
def IntsTypesUptoSaid : Prop := intsTypesUptoRow.holds Tryd.pinned (OpenSpec.upto intsTypesSpec)

/-- 'avocetlaw02.IntsDo', WHERE WHAT IT READS IS OF BULK AT MOST 1048576: true; the input reads as it did. -/
def intsDoUptoRow : OpenClaim := { program := "ytjonlcnmpejamaadoor", sum := "7e8c76768f4f66c7dfbae5afb25e76955f8d845c18a0018580b151b22ba3eb49", func := "avocet/avocetlaw02.IntsDo", spec := "intsDo", unfollowed := true, recurses := true, named := ["math/bits.deBruijn32tab", "math/bits.deBruijn64tab"], apart := false, laid := [("math/bits.deBruijn32tab", laid_math_bits_deBruijn32tab), ("math/bits.deBruijn64tab", laid_math_bits_deBruijn64tab)], narrowed := true }
def IntsDoUptoSaid : Prop := intsDoUptoRow.holds Tryd.pinned (OpenSpec.upto intsDoSpec)

/-- 'avocetlaw02.IntsTurn', WHERE WHAT IT READS IS OF BULK AT MOST 1048576: true; the input reads as it did. -/
def intsTurnUptoRow : OpenClaim := { program := "ytjonlcnmpejamaadoor", sum := "7e8c76768f4f66c7dfbae5afb25e76955f8d845c18a0018580b151b22ba3eb49", func := "avocet/avocetlaw02.IntsTurn", spec := "intsTurn", unfollowed := true, recurses := true, named := ["math/bits.deBruijn32tab", "math/bits.deBruijn64tab"], apart := false, laid := [("math/bits.deBruijn32tab", laid_math_bits_deBruijn32tab), ("math/bits.deBruijn64tab", laid_math_bits_deBruijn64tab)], narrowed := true }
def IntsTurnUptoSaid : Prop := intsTurnUptoRow.holds Tryd.pinned (OpenSpec.upto intsTurnSpec)

/-- 'avocetlaw02.IntsOrder', WHERE WHAT IT READS IS OF BULK AT MOST 1048576: true; the input reads as it did. -/
def intsOrderUptoRow : OpenClaim := { program := "ytjonlcnmpejamaadoor", sum := "7e8c76768f4f66c7dfbae5afb25e76955f8d845c18a0018580b151b22ba3eb49", func := "avocet/avocetlaw02.IntsOrder", spec := "intsOrder", unfollowed := true, recurses := true, named := ["math/bits.deBruijn32tab", "math/bits.deBruijn64tab"], apart := false, laid := [("math/bits.deBruijn32tab", laid_math_bits_deBruijn32tab), ("math/bits.deBruijn64tab", laid_math_bits_deBruijn64tab)], narrowed := true }
def IntsOrderUptoSaid : Prop := intsOrderUptoRow.holds Tryd.pinned (OpenSpec.upto intsOrderSpec)

/-- 'avocetlaw02.IntsAlone', WHERE WHAT IT READS IS OF BULK AT MOST 1048576: true; the input reads as it did. -/
def intsAloneUptoRow : OpenClaim := { program := "ytjonlcnmpejamaadoor", sum := "7e8c76768f4f66c7dfbae5afb25e76955f8d845c18a0018580b151b22ba3eb49", func := "avocet/avocetlaw02.IntsAlone", spec := "intsAlone", unfollowed := true, recurses := true, named := ["math/bits.deBruijn32tab", "math/bits.deBruijn64tab"], apart := false, laid := [("math/bits.deBruijn32tab", laid_math_bits_deBruijn32tab), ("math/bits.deBruijn64tab", laid_math_bits_deBruijn64tab)], narrowed := true }
def IntsAloneUptoSaid : Prop := intsAloneUptoRow.holds Tryd.pinned (OpenSpec.upto intsAloneSpec)

/-- 'avocetlaw02.IntsCount', WHERE WHAT IT READS IS OF BULK AT MOST 1048576: true; the input reads as it did. -/
def intsCountUptoRow : OpenClaim := { program := "ytjonlcnmpejamaadoor", sum := "7e8c76768f4f66c7dfbae5afb25e76955f8d845c18a0018580b151b22ba3eb49", func := "avocet/avocetlaw02.IntsCount", spec := "intsCount", unfollowed := true, recurses := true, named := ["math/bits.deBruijn32tab", "math/bits.deBruijn64tab"], apart := false, laid := [("math/bits.deBruijn32tab", laid_math_bits_deBruijn32tab), ("math/bits.deBruijn64tab", laid_math_bits_deBruijn64tab)], narrowed := true }
def IntsCountUptoSaid : Prop := intsCountUptoRow.holds Tryd.pinned (OpenSpec.upto intsCountSpec)

/-- 'avocetlaw02.IntsDivide', WHERE WHAT IT READS IS OF BULK AT MOST 1048576: true; the input reads as it did. -/
def intsDivideUptoRow : OpenClaim := { program := "ytjonlcnmpejamaadoor", sum := "7e8c76768f4f66c7dfbae5afb25e76955f8d845c18a0018580b151b22ba3eb49", func := "avocet/avocetlaw02.IntsDivide", spec := "intsDivide", unfollowed := true, recurses := true, named := ["math/bits.deBruijn32tab", "math/bits.deBruijn64tab"], apart := false, laid := [("math/bits.deBruijn32tab", laid_math_bits_deBruijn32tab), ("math/bits.deBruijn64tab", laid_math_bits_deBruijn64tab)], narrowed := true }
def IntsDivideUptoSaid : Prop := intsDivideUptoRow.holds Tryd.pinned (OpenSpec.upto intsDivideSpec)

/-- 'avocetlaw02.IntsValues', WHERE WHAT IT READS IS OF BULK AT MOST 1048576: true; the input reads as it did. -/
def intsValuesUptoRow : OpenClaim := { program := "ytjonlcnmpejamaadoor", sum := "7e8c76768f4f66c7dfbae5afb25e76955f8d845c18a0018580b151b22ba3eb49", func := "avocet/avocetlaw02.IntsValues", spec := "intsValues", unfollowed := true, recurses := true, named := ["math/bits.deBruijn32tab", "math/bits.deBruijn64tab"], apart := false, laid := [("math/bits.deBruijn32tab", laid_math_bits_deBruijn32tab), ("math/bits.deBruijn64tab", laid_math_bits_deBruijn64tab)], narrowed := true }
def IntsValuesUptoSaid : Prop := intsValuesUptoRow.holds Tryd.pinned (OpenSpec.upto intsValuesSpec)

/-- 'avocetlaw02.IntsWrap', WHERE WHAT IT READS IS OF BULK AT MOST 1048576: true; the input reads as it did. -/
def intsWrapUptoRow : OpenClaim := { program := "ytjonlcnmpejamaadoor", sum := "7e8c76768f4f66c7dfbae5afb25e76955f8d845c18a0018580b151b22ba3eb49", func := "avocet/avocetlaw02.IntsWrap", spec := "intsWrap", unfollowed := true, recurses := true, named := ["math/bits.deBruijn32tab", "math/bits.deBruijn64tab"], apart := false, laid := [("math/bits.deBruijn32tab", laid_math_bits_deBruijn32tab), ("math/bits.deBruijn64tab", laid_math_bits_deBruijn64tab)], narrowed := true }
def IntsWrapUptoSaid : Prop := intsWrapUptoRow.holds Tryd.pinned (OpenSpec.upto intsWrapSpec)

/-- 'avocetlaw02.IntsShape', WHERE WHAT IT READS IS OF BULK AT MOST 1048576: true; the input reads as it did. -/
def intsShapeUptoRow : OpenClaim := { program := "ytjonlcnmpejamaadoor", sum := "7e8c76768f4f66c7dfbae5afb25e76955f8d845c18a0018580b151b22ba3eb49", func := "avocet/avocetlaw02.IntsShape", spec := "intsShape", unfollowed := true, recurses := true, named := ["math/bits.deBruijn32tab", "math/bits.deBruijn64tab"], apart := false, laid := [("math/bits.deBruijn32tab", laid_math_bits_deBruijn32tab), ("math/bits.deBruijn64tab", laid_math_bits_deBruijn64tab)], narrowed := true }
def IntsShapeUptoSaid : Prop := intsShapeUptoRow.holds Tryd.pinned (OpenSpec.upto intsShapeSpec)

end Rows
end Go.Proofs.YtjonlcnmpejamaaDoor
