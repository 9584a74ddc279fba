-- Made by gprint.py (mine) over the kit's print.py, out of the translation; parts of it typed by hand.
import Derived.Test.YtjonlcnmpejamaaDoorProg
import Derived.Test.YtjonlcnmpejamaaDoorIWide
import Derived.Test.YtjonlcnmpejamaaDoorIOnes
import Derived.Below
import Derived.Deep.Draws
import Derived.Deep.AppendLies
import Derived.Maps.AppendAt
import Derived.OwnWalk
import Derived.Laws.BytesArg
import Derived.Laws.MakeOwn
import Derived.Laws.OwnMore
import Derived.Deep.OwnRows
import Derived.Tactics
import Derived.Lib.ConvBytes
import Derived.Laws.Slices
import Derived.WalkKit
import Derived.KernelRfl
import Derived.RowKit3
import Derived.Deep.LoopGhost
import Derived.Deep.QuietTactic
import Derived.BigQuiet
import Derived.WideLaws
import Derived.Deep.DeepCutAuto
import Derived.Deep.CutBlock
import Derived.Deep.RegionHeld3
import Derived.Laws.Rows
import Derived.Lib.AppendStr
import Derived.ArgAppend
import Derived.Laws.IdiomCopy
import Derived.OrdersHeld
import Derived.Laws.BitsLemmas
import Derived.RowKit
import Derived.Lib.SliceRun
import Derived.Lib.BitFns
import Derived.LoopN
import Derived.Test.YtjonlcnmpejamaaDoorWWords
import Derived.Test.YtjonlcnmpejamaaDoorWLast
import Derived.Test.YtjonlcnmpejamaaDoorWTab
import Derived.Test.YtjonlcnmpejamaaDoorWFour
import Derived.Test.YtjonlcnmpejamaaDoorWQPut
import Derived.Test.YtjonlcnmpejamaaDoorWApart
import Derived.Test.YtjonlcnmpejamaaDoorWArr
import Derived.Test.YtjonlcnmpejamaaDoorWZeros
import Derived.Test.YtjonlcnmpejamaaDoorWFoot
import Derived.Test.YtjonlcnmpejamaaDoorWKept
import Derived.Test.YtjonlcnmpejamaaDoorWShare
import Derived.Test.YtjonlcnmpejamaaDoorWN
import Derived.Test.YtjonlcnmpejamaaDoorWFootNe
import Derived.Test.YtjonlcnmpejamaaDoorWAt
import Derived.Test.YtjonlcnmpejamaaDoorWEqStruct
import Derived.Test.YtjonlcnmpejamaaDoorWRepsOne
import Derived.Test.YtjonlcnmpejamaaDoorWInv
import Derived.Test.YtjonlcnmpejamaaDoorWInvWords
import Derived.Test.YtjonlcnmpejamaaDoorWGuard
import Derived.Test.YtjonlcnmpejamaaDoorWNEv
import Derived.Test.YtjonlcnmpejamaaDoorWMore
namespace Go.Proofs.YtjonlcnmpejamaaDoor.G
open Go.RowKit Go.Proofs.YtjonlcnmpejamaaDoorW.PrintWords Go.Proofs.YtjonlcnmpejamaaDoorW.PrintLast Go.Proofs.YtjonlcnmpejamaaDoorW.PrintMore
attribute [local go_sem] max2_int min2_int max_two min_two max_three min_three max_four min_four   -- for this text's walks alone
set_option linter.unusedVariables false
set_option linter.unusedSimpArgs false



def errW : Option Int → Value
  | none => .nilIface
  | some c => .iface 0 (.int .i64 c)
theorem errW_none : errW none = .nilIface := rfl
theorem errW_some (c : Int) : errW (some c) = .iface 0 (.int .i64 c) := rfl

theorem info5 : (Tryd.prog.info? 5).map (fun i => (i.zero, i.size, i.bytes)) = some (some (.int .u8 0), 1, 1) := by kernel_rfl
-- the values' own types

end Go.Proofs.YtjonlcnmpejamaaDoor.G
