-- written for this claim over a table of functions with stand-ins
import Derived.Test.YtpdphdbphhaekaaDoorProg
import Derived.Below
import Derived.Deep.Draws
import Derived.Deep.AppendLies
import Derived.Maps.AppendAt
import Derived.OwnWalk
import Derived.Laws.BytesArg
import Derived.Laws.MakeOwn
import Derived.Laws.OwnMore
import Derived.Deep.OwnRows
import Derived.Tactics
import Derived.Lib.ConvBytes
import Derived.Laws.Slices
import Derived.WalkKit
import Derived.KernelRfl
import Derived.RowKit3
import Derived.Deep.LoopGhost
import Derived.Deep.QuietTactic
import Derived.BigQuiet
import Derived.WideLaws
import Derived.Deep.DeepCutAuto
import Derived.Deep.CutBlock
import Derived.Deep.RegionHeld3
import Derived.Laws.Rows
import Derived.Lib.AppendStr
import Derived.ArgAppend
import Derived.Laws.IdiomCopy
import Derived.OrdersHeld
import Derived.Laws.BitsLemmas
import Derived.RowKit
import Derived.Test.YtpdphdbphhaekaaDoorWWords
import Derived.Test.YtpdphdbphhaekaaDoorWLast
import Derived.Test.YtpdphdbphhaekaaDoorWTab
import Derived.Test.YtpdphdbphhaekaaDoorWFour
import Derived.Test.YtpdphdbphhaekaaDoorWQPut
import Derived.Test.YtpdphdbphhaekaaDoorWApart
import Derived.Test.YtpdphdbphhaekaaDoorWArr
import Derived.Test.YtpdphdbphhaekaaDoorWZeros
import Derived.Test.YtpdphdbphhaekaaDoorWFoot
import Derived.Test.YtpdphdbphhaekaaDoorWKept
import Derived.Test.YtpdphdbphhaekaaDoorWShare
import Derived.Test.YtpdphdbphhaekaaDoorWN
import Derived.Test.YtpdphdbphhaekaaDoorWFootNe
import Derived.Test.YtpdphdbphhaekaaDoorWAt
import Derived.Test.YtpdphdbphhaekaaDoorWEqStruct
import Derived.Test.YtpdphdbphhaekaaDoorWRepsOne
import Derived.Test.YtpdphdbphhaekaaDoorWInv
import Derived.Test.YtpdphdbphhaekaaDoorWInvWords
import Derived.Test.YtpdphdbphhaekaaDoorWGuard
import Derived.Test.YtpdphdbphhaekaaDoorWNEv
import Derived.Test.YtpdphdbphhaekaaDoorWMore
namespace Go.Proofs.YtpdphdbphhaekaaDoor.PTreeLevels
open Go.RowKit Go.Proofs.YtpdphdbphhaekaaDoorW.PrintWords Go.Proofs.YtpdphdbphhaekaaDoorW.PrintLast Go.Proofs.YtpdphdbphhaekaaDoorW.PrintMore
attribute [local go_sem] max2_int min2_int max_two min_two max_three min_three max_four min_four   -- for this text's walks alone
set_option linter.unusedVariables false
set_option linter.unusedSimpArgs false



def errW : Option Int → Value
  | none => .nilIface
  | some c => .iface 0 (.int .i64 c)
theorem errW_none : errW none = .nilIface := rfl
theorem errW_some (c : Int) : errW (some c) = .iface 0 (.int .i64 c) := rfl

theorem info3 : (Tryd.prog.info? 3).map (fun i => (i.zero, i.size, i.bytes)) = some (some (.int .i64 0), 1, 8) := by kernel_rfl
-- the values' own types

end Go.Proofs.YtpdphdbphhaekaaDoor.PTreeLevels
