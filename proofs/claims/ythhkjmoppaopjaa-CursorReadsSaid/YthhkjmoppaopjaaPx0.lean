/- Go functions of this seat as Lean functions, each with a proof that the call answers just what its Lean function says; written by a program of this session (wip/tools/pr.py) over the kit's print. Conditions: what each theorem states. -/
import Derived.Test.YthhkjmoppaopjaaProg
import Derived.Below
import Derived.Deep.Draws
import Derived.Deep.AppendLies
import Derived.Maps.AppendAt
import Derived.OwnWalk
import Derived.Laws.BytesArg
import Derived.Laws.MakeOwn
import Derived.Laws.OwnMore
import Derived.Deep.OwnRows
import Derived.Tactics
import Derived.Lib.ConvBytes
import Derived.Laws.Slices
import Derived.WalkKit
import Derived.KernelRfl
import Derived.RowKit3
import Derived.Deep.LoopGhost
import Derived.Deep.QuietTactic
import Derived.BigQuiet
import Derived.WideLaws
import Derived.Deep.DeepCutAuto
import Derived.Deep.CutBlock
import Derived.Deep.RegionHeld3
import Derived.Laws.Rows
import Derived.Lib.AppendStr
import Derived.ArgAppend
import Derived.Laws.IdiomCopy
import Derived.OrdersHeld
import Derived.Laws.BitsLemmas
import Derived.RowKit
import Derived.Test.YthhkjmoppaopjaaWWords
import Derived.Test.YthhkjmoppaopjaaWLast
import Derived.Test.YthhkjmoppaopjaaWTab
import Derived.Test.YthhkjmoppaopjaaWFour
import Derived.Test.YthhkjmoppaopjaaWQPut
import Derived.Test.YthhkjmoppaopjaaWApart
import Derived.Test.YthhkjmoppaopjaaWArr
import Derived.Test.YthhkjmoppaopjaaWZeros
import Derived.Test.YthhkjmoppaopjaaWFoot
import Derived.Test.YthhkjmoppaopjaaWKept
import Derived.Test.YthhkjmoppaopjaaWShare
import Derived.Test.YthhkjmoppaopjaaWN
import Derived.Test.YthhkjmoppaopjaaWFootNe
import Derived.Test.YthhkjmoppaopjaaWAt
import Derived.Test.YthhkjmoppaopjaaWEqStruct
import Derived.Test.YthhkjmoppaopjaaWRepsOne
import Derived.Test.YthhkjmoppaopjaaWInv
import Derived.Test.YthhkjmoppaopjaaWInvWords
import Derived.Test.YthhkjmoppaopjaaWGuard
import Derived.Test.YthhkjmoppaopjaaWNEv
import Derived.Test.YthhkjmoppaopjaaWMore
namespace Go.Proofs.Ythhkjmoppaopjaa.P
open Go.RowKit Go.Proofs.YthhkjmoppaopjaaW.PrintWords Go.Proofs.YthhkjmoppaopjaaW.PrintLast Go.Proofs.YthhkjmoppaopjaaW.PrintMore
attribute [local go_sem] max2_int min2_int max_two min_two max_three min_three max_four min_four   -- for this text's walks alone
set_option linter.unusedVariables false
set_option linter.unusedSimpArgs false



def errW : Option Int → Value
  | none => .nilIface
  | some c => .iface 0 (.int .i64 c)
theorem errW_none : errW none = .nilIface := rfl
theorem errW_some (c : Int) : errW (some c) = .iface 0 (.int .i64 c) := rfl

theorem info32 : (Try.prog.info? 32).map (fun i => (i.zero, i.size, i.bytes)) = some (some (.int .u16 0), 1, 2) := by kernel_rfl
-- the values' own types

end Go.Proofs.Ythhkjmoppaopjaa.P
