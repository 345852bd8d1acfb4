/- Go functions of this seat as Lean functions, each with a proof that the call answers just what its Lean function says; written by a program of this session (wip/tools/pr.py) over the kit's print. Conditions: what each theorem states. -/
import Derived.Test.YtoompkobcohehaaPx0
namespace Go.Proofs.Ytoompkobcohehaa.P
open Go.RowKit Go.Proofs.YtoompkobcohehaaW.PrintWords Go.Proofs.YtoompkobcohehaaW.PrintLast Go.Proofs.YtoompkobcohehaaW.PrintMore
attribute [local go_sem] max2_int min2_int max_two min_two max_three min_three max_four min_four   -- for this text's walks alone
set_option linter.unusedVariables false
set_option linter.unusedSimpArgs false

/-! ### code_Answers: function 12 -/
def code_Answers.f (a0 : Int) (a1 : Int) : Option (Bool) := if a0 < 128 then (some ((Go.bits .andNot .u8 a1 128) == a0)) else (some false)
set_option maxHeartbeats 8000000 in
set_option maxRecDepth 100000 in
theorem code_Answers.calls (a0 : Int) (a1 : Int) (r : Bool) (w : World) (h : code_Answers.f a0 a1 = some r) :
    Calls Try.prog 12 #[.int .u8 a0, .int .u8 a1] w fun e w' => e = .returned (.bool r) ∧ Drawn0 w w' := by
  have H : (if a0 < 128 then (some ((Go.bits .andNot .u8 a1 128) == a0)) else (some false)) = some r := h
  clear h
  by_cases c3 : a0 < 128
  · rw [if_pos c3] at H
    have c3b0 : decide (a0 < 128) = true := decide_eq_true c3
    clear c3
    obtain rfl := Option.some.inj H
    go_enter Try.func12, Try.ntmps12
    go_wp2
    go_ret
    exact ⟨by first | rfl | (simp; done) | (simp [*]; done), by repeat (first | exact Drawn0.refl _ | apply Drawn0.step)⟩
  · rw [if_neg c3] at H
    have c3b0 : decide (a0 < 128) = false := decide_eq_false c3
    clear c3
    obtain rfl := Option.some.inj H
    go_enter Try.func12, Try.ntmps12
    go_wp2
    go_ret
    exact ⟨by first | rfl | (simp; done) | (simp [*]; done), by repeat (first | exact Drawn0.refl _ | apply Drawn0.step)⟩

end Go.Proofs.Ytoompkobcohehaa.P
