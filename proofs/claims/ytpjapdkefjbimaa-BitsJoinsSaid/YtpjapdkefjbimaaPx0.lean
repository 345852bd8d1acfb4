/- Go functions of this seat as Lean functions, each with a proof that the call answers just what its Lean function says; written by a program of this session (wip/tools/pr.py) over the kit's print. Conditions: what each theorem states. -/
import Derived.Test.YtpjapdkefjbimaaProg
import Derived.Below
import Derived.Deep.Draws
import Derived.Deep.AppendLies
import Derived.Maps.AppendAt
import Derived.OwnWalk
import Derived.Laws.BytesArg
import Derived.Laws.MakeOwn
import Derived.Laws.OwnMore
import Derived.Deep.OwnRows
import Derived.Tactics
import Derived.Lib.ConvBytes
import Derived.Laws.Slices
import Derived.WalkKit
import Derived.KernelRfl
import Derived.RowKit3
import Derived.Deep.LoopGhost
import Derived.Deep.QuietTactic
import Derived.BigQuiet
import Derived.WideLaws
import Derived.Deep.DeepCutAuto
import Derived.Deep.CutBlock
import Derived.Deep.RegionHeld3
import Derived.Laws.Rows
import Derived.Lib.AppendStr
import Derived.ArgAppend
import Derived.Laws.IdiomCopy
import Derived.OrdersHeld
import Derived.Laws.BitsLemmas
import Derived.RowKit
import Derived.Test.YtpjapdkefjbimaaWWords
import Derived.Test.YtpjapdkefjbimaaWLast
import Derived.Test.YtpjapdkefjbimaaWTab
import Derived.Test.YtpjapdkefjbimaaWFour
import Derived.Test.YtpjapdkefjbimaaWQPut
import Derived.Test.YtpjapdkefjbimaaWApart
import Derived.Test.YtpjapdkefjbimaaWArr
import Derived.Test.YtpjapdkefjbimaaWZeros
import Derived.Test.YtpjapdkefjbimaaWFoot
import Derived.Test.YtpjapdkefjbimaaWKept
import Derived.Test.YtpjapdkefjbimaaWShare
import Derived.Test.YtpjapdkefjbimaaWN
import Derived.Test.YtpjapdkefjbimaaWFootNe
import Derived.Test.YtpjapdkefjbimaaWAt
import Derived.Test.YtpjapdkefjbimaaWEqStruct
import Derived.Test.YtpjapdkefjbimaaWRepsOne
import Derived.Test.YtpjapdkefjbimaaWInv
import Derived.Test.YtpjapdkefjbimaaWInvWords
import Derived.Test.YtpjapdkefjbimaaWGuard
import Derived.Test.YtpjapdkefjbimaaWNEv
import Derived.Test.YtpjapdkefjbimaaWMore
namespace Go.Proofs.Ytpjapdkefjbimaa.P
open Go.RowKit Go.Proofs.YtpjapdkefjbimaaW.PrintWords Go.Proofs.YtpjapdkefjbimaaW.PrintLast Go.Proofs.YtpjapdkefjbimaaW.PrintMore
attribute [local go_sem] max2_int min2_int max_two min_two max_three min_three max_four min_four   -- for this text's walks alone
set_option linter.unusedVariables false
set_option linter.unusedSimpArgs false



def errW : Option Int → Value
  | none => .nilIface
  | some c => .iface 0 (.int .i64 c)
theorem errW_none : errW none = .nilIface := rfl
theorem errW_some (c : Int) : errW (some c) = .iface 0 (.int .i64 c) := rfl

theorem info4 : (Try.prog.info? 4).map (fun i => (i.zero, i.size, i.bytes)) = some (some (.bool false), 1, 1) := by kernel_rfl
theorem info5 : (Try.prog.info? 5).map (fun i => (i.zero, i.size, i.bytes)) = some (some (.int .u8 0), 1, 1) := by kernel_rfl
-- the values' own types

end Go.Proofs.Ytpjapdkefjbimaa.P
