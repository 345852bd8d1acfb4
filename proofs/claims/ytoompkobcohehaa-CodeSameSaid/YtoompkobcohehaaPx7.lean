/- Go functions of this seat as Lean functions, each with a proof that the call answers just what its Lean function says; written by a program of this session (wip/tools/pr.py) over the kit's print. Conditions: what each theorem states. -/
import Derived.Test.YtoompkobcohehaaCode
import Derived.Test.YtoompkobcohehaaPx0
namespace Go.Proofs.Ytoompkobcohehaa.P
open Go.RowKit Go.Proofs.YtoompkobcohehaaW.PrintWords Go.Proofs.YtoompkobcohehaaW.PrintLast Go.Proofs.YtoompkobcohehaaW.PrintMore
attribute [local go_sem] max2_int min2_int max_two min_two max_three min_three max_four min_four   -- for this text's walks alone
set_option linter.unusedVariables false
set_option linter.unusedSimpArgs false

/-! ### code_Bits: function 15 -/
def code_Bits.f (a0 : Int) : Option (Bool) := if (Lit.int .u16 a0).wf = true then some (Go.Proofs.Ytoompkobcohehaa.Code.bitsubL.contains a0) else none
set_option maxHeartbeats 8000000 in
set_option maxRecDepth 100000 in
theorem code_Bits.calls (a0 : Int) (r : Bool) (w : World) (h : code_Bits.f a0 = some r) :
    Calls Try.prog 15 #[.int .u16 a0] w fun e w' => e = .returned (.bool r) ∧ Below w.heap.size w w' := by
  unfold code_Bits.f at h
  by_cases hc : (Lit.int .u16 a0).wf = true
  · rw [if_pos hc] at h
    obtain rfl := Option.some.inj h
    exact Go.Proofs.Ytoompkobcohehaa.Code.bitsub_any a0 w hc
  · rw [if_neg hc] at h; cases h

end Go.Proofs.Ytoompkobcohehaa.P
