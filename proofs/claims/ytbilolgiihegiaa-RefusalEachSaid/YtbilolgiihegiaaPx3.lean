/- Go functions of this seat as Lean functions, each with a proof that the call answers just what its Lean function says; written by a program of this session (wip/tools/pr.py) over the kit's print. Conditions: what each theorem states. -/
import Derived.Test.YtbilolgiihegiaaCode
import Derived.Test.YtbilolgiihegiaaPx0
namespace Go.Proofs.Ytbilolgiihegiaa.P
open Go.RowKit Go.Proofs.YtbilolgiihegiaaW.PrintWords Go.Proofs.YtbilolgiihegiaaW.PrintLast Go.Proofs.YtbilolgiihegiaaW.PrintMore
attribute [local go_sem] max2_int min2_int max_two min_two max_three min_three max_four min_four   -- for this text's walks alone
set_option linter.unusedVariables false
set_option linter.unusedSimpArgs false

/-! ### code_Public: function 18 -/
def code_Public.f (a0 : Int) : Option (Bool) := if (Lit.int .u8 a0).wf = true then some (Go.Proofs.Ytbilolgiihegiaa.Code.publicL.contains a0) else none
set_option maxHeartbeats 8000000 in
set_option maxRecDepth 100000 in
theorem code_Public.calls (a0 : Int) (r : Bool) (w : World) (h : code_Public.f a0 = some r) :
    Calls Try.prog 18 #[.int .u8 a0] w fun e w' => e = .returned (.bool r) ∧ Below w.heap.size w w' := by
  unfold code_Public.f at h
  by_cases hc : (Lit.int .u8 a0).wf = true
  · rw [if_pos hc] at h
    obtain rfl := Option.some.inj h
    exact Go.Proofs.Ytbilolgiihegiaa.Code.public_any a0 w hc
  · rw [if_neg hc] at h; cases h

end Go.Proofs.Ytbilolgiihegiaa.P
