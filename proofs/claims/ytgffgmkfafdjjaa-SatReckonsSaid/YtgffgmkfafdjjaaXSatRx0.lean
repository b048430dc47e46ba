-- Written by xprint.py (a program of this session) for this claim
import Derived.Test.YtgffgmkfafdjjaaProg
import Derived.Below
import Derived.Deep.Draws
import Derived.Deep.AppendLies
import Derived.Maps.AppendAt
import Derived.OwnWalk
import Derived.Laws.BytesArg
import Derived.Laws.MakeOwn
import Derived.Laws.OwnMore
import Derived.Deep.OwnRows
import Derived.Tactics
import Derived.Lib.ConvBytes
import Derived.Laws.Slices
import Derived.WalkKit
import Derived.KernelRfl
import Derived.RowKit3
import Derived.Deep.LoopGhost
import Derived.Deep.QuietTactic
import Derived.BigQuiet
import Derived.WideLaws
import Derived.Deep.DeepCutAuto
import Derived.Deep.CutBlock
import Derived.Deep.RegionHeld3
import Derived.Laws.Rows
import Derived.Lib.AppendStr
import Derived.ArgAppend
import Derived.Laws.IdiomCopy
import Derived.OrdersHeld
import Derived.Laws.BitsLemmas
import Derived.RowKit
import Derived.Test.YtgffgmkfafdjjaaWWords
import Derived.Test.YtgffgmkfafdjjaaWLast
import Derived.Test.YtgffgmkfafdjjaaWTab
import Derived.Test.YtgffgmkfafdjjaaWFour
import Derived.Test.YtgffgmkfafdjjaaWQPut
import Derived.Test.YtgffgmkfafdjjaaWApart
import Derived.Test.YtgffgmkfafdjjaaWArr
import Derived.Test.YtgffgmkfafdjjaaWZeros
import Derived.Test.YtgffgmkfafdjjaaWFoot
import Derived.Test.YtgffgmkfafdjjaaWKept
import Derived.Test.YtgffgmkfafdjjaaWShare
import Derived.Test.YtgffgmkfafdjjaaWN
import Derived.Test.YtgffgmkfafdjjaaWFootNe
import Derived.Test.YtgffgmkfafdjjaaWAt
import Derived.Test.YtgffgmkfafdjjaaWEqStruct
import Derived.Test.YtgffgmkfafdjjaaWRepsOne
import Derived.Test.YtgffgmkfafdjjaaWInv
import Derived.Test.YtgffgmkfafdjjaaWInvWords
import Derived.Test.YtgffgmkfafdjjaaWGuard
import Derived.Test.YtgffgmkfafdjjaaWNEv
import Derived.Test.YtgffgmkfafdjjaaWMore
import Derived.Test.YtgffgmkfafdjjaaV
import Derived.Test.YtgffgmkfafdjjaaRMulC
namespace Go.Proofs.Ytgffgmkfafdjjaa.XSatR
open Go.Proofs.YtgffgmkfafdjjaaV
open Go.RowKit Go.Proofs.YtgffgmkfafdjjaaW.PrintWords Go.Proofs.YtgffgmkfafdjjaaW.PrintLast Go.Proofs.YtgffgmkfafdjjaaW.PrintMore
attribute [local go_sem] max2_int min2_int max_two min_two max_three min_three max_four min_four   -- for this text's walks alone
set_option linter.unusedVariables false
set_option linter.unusedSimpArgs false



def errW : Option Int → Value
  | none => .nilIface
  | some c => .iface 0 (.int .i64 c)
theorem errW_none : errW none = .nilIface := rfl
theorem errW_some (c : Int) : errW (some c) = .iface 0 (.int .i64 c) := rfl

-- the values' own types

end Go.Proofs.Ytgffgmkfafdjjaa.XSatR
