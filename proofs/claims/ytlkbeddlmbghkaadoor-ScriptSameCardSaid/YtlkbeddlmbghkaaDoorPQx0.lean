/- Functions with the same answers as the Go functions named, and that the Go code comes to just these; written by a program of this work, out of the kit's print. -/
import Derived.Test.YtlkbeddlmbghkaaDoorProg
import Derived.Below
import Derived.Deep.Draws
import Derived.Deep.AppendLies
import Derived.Maps.AppendAt
import Derived.OwnWalk
import Derived.Laws.BytesArg
import Derived.Laws.MakeOwn
import Derived.Laws.OwnMore
import Derived.Deep.OwnRows
import Derived.Tactics
import Derived.Lib.ConvBytes
import Derived.Laws.Slices
import Derived.WalkKit
import Derived.KernelRfl
import Derived.RowKit3
import Derived.Deep.LoopGhost
import Derived.Deep.QuietTactic
import Derived.BigQuiet
import Derived.WideLaws
import Derived.Deep.DeepCutAuto
import Derived.Deep.CutBlock
import Derived.Deep.RegionHeld3
import Derived.Laws.Rows
import Derived.Lib.AppendStr
import Derived.ArgAppend
import Derived.Laws.IdiomCopy
import Derived.OrdersHeld
import Derived.Laws.BitsLemmas
import Derived.RowKit
import Derived.Lib.MinMaxS
import Derived.Laws.Cover1
import Derived.Test.YtlkbeddlmbghkaaDoorBoxW
import Derived.Test.YtlkbeddlmbghkaaDoorWWords
import Derived.Test.YtlkbeddlmbghkaaDoorWLast
import Derived.Test.YtlkbeddlmbghkaaDoorWTab
import Derived.Test.YtlkbeddlmbghkaaDoorWFour
import Derived.Test.YtlkbeddlmbghkaaDoorWQPut
import Derived.Test.YtlkbeddlmbghkaaDoorWApart
import Derived.Test.YtlkbeddlmbghkaaDoorWArr
import Derived.Test.YtlkbeddlmbghkaaDoorWZeros
import Derived.Test.YtlkbeddlmbghkaaDoorWFoot
import Derived.Test.YtlkbeddlmbghkaaDoorWKept
import Derived.Test.YtlkbeddlmbghkaaDoorWShare
import Derived.Test.YtlkbeddlmbghkaaDoorWN
import Derived.Test.YtlkbeddlmbghkaaDoorWFootNe
import Derived.Test.YtlkbeddlmbghkaaDoorWAt
import Derived.Test.YtlkbeddlmbghkaaDoorWEqStruct
import Derived.Test.YtlkbeddlmbghkaaDoorWRepsOne
import Derived.Test.YtlkbeddlmbghkaaDoorWInv
import Derived.Test.YtlkbeddlmbghkaaDoorWInvWords
import Derived.Test.YtlkbeddlmbghkaaDoorWGuard
import Derived.Test.YtlkbeddlmbghkaaDoorWNEv
import Derived.Test.YtlkbeddlmbghkaaDoorWMore
namespace Go.Proofs.YtlkbeddlmbghkaaDoor.PQ
open Go.RowKit Go.Proofs.YtlkbeddlmbghkaaDoorW.PrintWords Go.Proofs.YtlkbeddlmbghkaaDoorW.PrintLast Go.Proofs.YtlkbeddlmbghkaaDoorW.PrintMore
attribute [local go_sem] Wd.one Wd.run_store Go.Lib.run_max_strs max2_int min2_int max_two min_two max_three min_three max_four min_four   -- for this text's walks alone
set_option linter.unusedVariables false
set_option linter.unusedSimpArgs false



def errW : Option Int → Value
  | none => .nilIface
  | some c => .iface 0 (.int .i64 c)
theorem errW_none : errW none = .nilIface := rfl
theorem errW_some (c : Int) : errW (some c) = .iface 0 (.int .i64 c) := rfl

-- the values' own types

end Go.Proofs.YtlkbeddlmbghkaaDoor.PQ
