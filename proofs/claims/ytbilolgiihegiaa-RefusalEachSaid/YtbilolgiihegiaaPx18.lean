/- Go functions of this seat as Lean functions, each with a proof that the call answers just what its Lean function says; written by a program of this session (wip/tools/pr.py) over the kit's print. Conditions: what each theorem states. -/
import Derived.Test.YtbilolgiihegiaaPx0
namespace Go.Proofs.Ytbilolgiihegiaa.P
open Go.RowKit Go.Proofs.YtbilolgiihegiaaW.PrintWords Go.Proofs.YtbilolgiihegiaaW.PrintLast Go.Proofs.YtbilolgiihegiaaW.PrintMore
attribute [local go_sem] max2_int min2_int max_two min_two max_three min_three max_four min_four   -- for this text's walks alone
set_option linter.unusedVariables false
set_option linter.unusedSimpArgs false

/-! ### busbarref07_Public: function 16 -/
def busbarref07_Public.f (a0 : Int) : Option (Bool) := if a0 ≥ 1 then (if a0 ≤ 8 then (some true) else (if a0 = 11 then (some true) else (if a0 = 12 then (some true) else (if a0 ≥ 15 then (if a0 ≤ 17 then (some true) else (if a0 ≥ 20 then (if a0 ≤ 24 then (some true) else (some (a0 == 43))) else (some (a0 == 43)))) else (if a0 ≥ 20 then (if a0 ≤ 24 then (some true) else (some (a0 == 43))) else (some (a0 == 43))))))) else (if a0 = 11 then (some true) else (if a0 = 12 then (some true) else (if a0 ≥ 15 then (if a0 ≤ 17 then (some true) else (if a0 ≥ 20 then (if a0 ≤ 24 then (some true) else (some (a0 == 43))) else (some (a0 == 43)))) else (if a0 ≥ 20 then (if a0 ≤ 24 then (some true) else (some (a0 == 43))) else (some (a0 == 43))))))
set_option maxHeartbeats 8000000 in
set_option maxRecDepth 100000 in
theorem busbarref07_Public.calls (a0 : Int) (r : Bool) (w : World) (h : busbarref07_Public.f a0 = some r) :
    Calls Try.prog 16 #[.int .u8 a0] w fun e w' => e = .returned (.bool r) ∧ Drawn0 w w' := by
  have H : (if a0 ≥ 1 then (if a0 ≤ 8 then (some true) else (if a0 = 11 then (some true) else (if a0 = 12 then (some true) else (if a0 ≥ 15 then (if a0 ≤ 17 then (some true) else (if a0 ≥ 20 then (if a0 ≤ 24 then (some true) else (some (a0 == 43))) else (some (a0 == 43)))) else (if a0 ≥ 20 then (if a0 ≤ 24 then (some true) else (some (a0 == 43))) else (some (a0 == 43))))))) else (if a0 = 11 then (some true) else (if a0 = 12 then (some true) else (if a0 ≥ 15 then (if a0 ≤ 17 then (some true) else (if a0 ≥ 20 then (if a0 ≤ 24 then (some true) else (some (a0 == 43))) else (some (a0 == 43)))) else (if a0 ≥ 20 then (if a0 ≤ 24 then (some true) else (some (a0 == 43))) else (some (a0 == 43))))))) = some r := h
  clear h
  by_cases c2 : a0 ≥ 1
  · rw [if_pos c2] at H
    have c2b0 : decide (1 ≤ a0) = true := decide_eq_true c2
    clear c2
    by_cases c3 : a0 ≤ 8
    · rw [if_pos c3] at H
      have c3b0 : decide (a0 ≤ 8) = true := decide_eq_true c3
      clear c3
      obtain rfl := Option.some.inj H
      go_enter Try.func16, Try.ntmps16
      go_wp2
      go_ret
      exact ⟨by first | rfl | (simp; done) | (simp [*]; done), by repeat (first | exact Drawn0.refl _ | apply Drawn0.step)⟩
    · rw [if_neg c3] at H
      have c3b0 : decide (a0 ≤ 8) = false := decide_eq_false c3
      clear c3
      by_cases c4 : a0 = 11
      · rw [if_pos c4] at H
        have c4b0 : (a0 == 11) = true := beq_iff_eq.mpr c4
        have c4b1 : (a0 != 11) = false := bne_eq_false_iff_eq.mpr c4
        clear c4
        obtain rfl := Option.some.inj H
        go_enter Try.func16, Try.ntmps16
        go_wp2
        go_ret
        exact ⟨by first | rfl | (simp; done) | (simp [*]; done), by repeat (first | exact Drawn0.refl _ | apply Drawn0.step)⟩
      · rw [if_neg c4] at H
        have c4b0 : (a0 == 11) = false := beq_eq_false_iff_ne.mpr c4
        have c4b1 : (a0 != 11) = true := bne_iff_ne.mpr c4
        by_cases c5 : a0 = 12
        · rw [if_pos c5] at H
          have c5b0 : (a0 == 12) = true := beq_iff_eq.mpr c5
          have c5b1 : (a0 != 12) = false := bne_eq_false_iff_eq.mpr c5
          clear c5
          obtain rfl := Option.some.inj H
          go_enter Try.func16, Try.ntmps16
          go_wp2
          go_ret
          exact ⟨by first | rfl | (simp; done) | (simp [*]; done), by repeat (first | exact Drawn0.refl _ | apply Drawn0.step)⟩
        · rw [if_neg c5] at H
          have c5b0 : (a0 == 12) = false := beq_eq_false_iff_ne.mpr c5
          have c5b1 : (a0 != 12) = true := bne_iff_ne.mpr c5
          by_cases c6 : a0 ≥ 15
          · rw [if_pos c6] at H
            have c6b0 : decide (15 ≤ a0) = true := decide_eq_true c6
            clear c6
            by_cases c7 : a0 ≤ 17
            · rw [if_pos c7] at H
              have c7b0 : decide (a0 ≤ 17) = true := decide_eq_true c7
              clear c7
              obtain rfl := Option.some.inj H
              go_enter Try.func16, Try.ntmps16
              go_wp2
              go_ret
              exact ⟨by first | rfl | (simp; done) | (simp [*]; done), by repeat (first | exact Drawn0.refl _ | apply Drawn0.step)⟩
            · rw [if_neg c7] at H
              have c7b0 : decide (a0 ≤ 17) = false := decide_eq_false c7
              clear c7
              by_cases c8 : a0 ≥ 20
              · rw [if_pos c8] at H
                have c8b0 : decide (20 ≤ a0) = true := decide_eq_true c8
                clear c8
                by_cases c9 : a0 ≤ 24
                · rw [if_pos c9] at H
                  have c9b0 : decide (a0 ≤ 24) = true := decide_eq_true c9
                  clear c9
                  obtain rfl := Option.some.inj H
                  go_enter Try.func16, Try.ntmps16
                  go_wp2
                  go_ret
                  exact ⟨by first | rfl | (simp; done) | (simp [*]; done), by repeat (first | exact Drawn0.refl _ | apply Drawn0.step)⟩
                · rw [if_neg c9] at H
                  have c9b0 : decide (a0 ≤ 24) = false := decide_eq_false c9
                  clear c9
                  obtain rfl := Option.some.inj H
                  go_enter Try.func16, Try.ntmps16
                  go_wp2
                  go_ret
                  exact ⟨by first | rfl | (simp; done) | (simp [*]; done), by repeat (first | exact Drawn0.refl _ | apply Drawn0.step)⟩
              · rw [if_neg c8] at H
                have c8b0 : decide (20 ≤ a0) = false := decide_eq_false c8
                clear c8
                obtain rfl := Option.some.inj H
                go_enter Try.func16, Try.ntmps16
                go_wp2
                go_ret
                exact ⟨by first | rfl | (simp; done) | (simp [*]; done), by repeat (first | exact Drawn0.refl _ | apply Drawn0.step)⟩
          · rw [if_neg c6] at H
            have c6b0 : decide (15 ≤ a0) = false := decide_eq_false c6
            clear c6
            by_cases c10 : a0 ≥ 20
            · rw [if_pos c10] at H
              have c10b0 : decide (20 ≤ a0) = true := decide_eq_true c10
              clear c10
              by_cases c11 : a0 ≤ 24
              · rw [if_pos c11] at H
                have c11b0 : decide (a0 ≤ 24) = true := decide_eq_true c11
                clear c11
                obtain rfl := Option.some.inj H
                go_enter Try.func16, Try.ntmps16
                go_wp2
                go_ret
                exact ⟨by first | rfl | (simp; done) | (simp [*]; done), by repeat (first | exact Drawn0.refl _ | apply Drawn0.step)⟩
              · rw [if_neg c11] at H
                have c11b0 : decide (a0 ≤ 24) = false := decide_eq_false c11
                clear c11
                obtain rfl := Option.some.inj H
                go_enter Try.func16, Try.ntmps16
                go_wp2
                go_ret
                exact ⟨by first | rfl | (simp; done) | (simp [*]; done), by repeat (first | exact Drawn0.refl _ | apply Drawn0.step)⟩
            · rw [if_neg c10] at H
              have c10b0 : decide (20 ≤ a0) = false := decide_eq_false c10
              clear c10
              obtain rfl := Option.some.inj H
              go_enter Try.func16, Try.ntmps16
              go_wp2
              go_ret
              exact ⟨by first | rfl | (simp; done) | (simp [*]; done), by repeat (first | exact Drawn0.refl _ | apply Drawn0.step)⟩
  · rw [if_neg c2] at H
    have c2b0 : decide (1 ≤ a0) = false := decide_eq_false c2
    clear c2
    by_cases c12 : a0 = 11
    · rw [if_pos c12] at H
      have c12b0 : (a0 == 11) = true := beq_iff_eq.mpr c12
      have c12b1 : (a0 != 11) = false := bne_eq_false_iff_eq.mpr c12
      clear c12
      obtain rfl := Option.some.inj H
      go_enter Try.func16, Try.ntmps16
      go_wp2
      go_ret
      exact ⟨by first | rfl | (simp; done) | (simp [*]; done), by repeat (first | exact Drawn0.refl _ | apply Drawn0.step)⟩
    · rw [if_neg c12] at H
      have c12b0 : (a0 == 11) = false := beq_eq_false_iff_ne.mpr c12
      have c12b1 : (a0 != 11) = true := bne_iff_ne.mpr c12
      by_cases c13 : a0 = 12
      · rw [if_pos c13] at H
        have c13b0 : (a0 == 12) = true := beq_iff_eq.mpr c13
        have c13b1 : (a0 != 12) = false := bne_eq_false_iff_eq.mpr c13
        clear c13
        obtain rfl := Option.some.inj H
        go_enter Try.func16, Try.ntmps16
        go_wp2
        go_ret
        exact ⟨by first | rfl | (simp; done) | (simp [*]; done), by repeat (first | exact Drawn0.refl _ | apply Drawn0.step)⟩
      · rw [if_neg c13] at H
        have c13b0 : (a0 == 12) = false := beq_eq_false_iff_ne.mpr c13
        have c13b1 : (a0 != 12) = true := bne_iff_ne.mpr c13
        by_cases c14 : a0 ≥ 15
        · rw [if_pos c14] at H
          have c14b0 : decide (15 ≤ a0) = true := decide_eq_true c14
          clear c14
          by_cases c15 : a0 ≤ 17
          · rw [if_pos c15] at H
            have c15b0 : decide (a0 ≤ 17) = true := decide_eq_true c15
            clear c15
            obtain rfl := Option.some.inj H
            go_enter Try.func16, Try.ntmps16
            go_wp2
            go_ret
            exact ⟨by first | rfl | (simp; done) | (simp [*]; done), by repeat (first | exact Drawn0.refl _ | apply Drawn0.step)⟩
          · rw [if_neg c15] at H
            have c15b0 : decide (a0 ≤ 17) = false := decide_eq_false c15
            clear c15
            by_cases c16 : a0 ≥ 20
            · rw [if_pos c16] at H
              have c16b0 : decide (20 ≤ a0) = true := decide_eq_true c16
              clear c16
              by_cases c17 : a0 ≤ 24
              · rw [if_pos c17] at H
                have c17b0 : decide (a0 ≤ 24) = true := decide_eq_true c17
                clear c17
                obtain rfl := Option.some.inj H
                go_enter Try.func16, Try.ntmps16
                go_wp2
                go_ret
                exact ⟨by first | rfl | (simp; done) | (simp [*]; done), by repeat (first | exact Drawn0.refl _ | apply Drawn0.step)⟩
              · rw [if_neg c17] at H
                have c17b0 : decide (a0 ≤ 24) = false := decide_eq_false c17
                clear c17
                obtain rfl := Option.some.inj H
                go_enter Try.func16, Try.ntmps16
                go_wp2
                go_ret
                exact ⟨by first | rfl | (simp; done) | (simp [*]; done), by repeat (first | exact Drawn0.refl _ | apply Drawn0.step)⟩
            · rw [if_neg c16] at H
              have c16b0 : decide (20 ≤ a0) = false := decide_eq_false c16
              clear c16
              obtain rfl := Option.some.inj H
              go_enter Try.func16, Try.ntmps16
              go_wp2
              go_ret
              exact ⟨by first | rfl | (simp; done) | (simp [*]; done), by repeat (first | exact Drawn0.refl _ | apply Drawn0.step)⟩
        · rw [if_neg c14] at H
          have c14b0 : decide (15 ≤ a0) = false := decide_eq_false c14
          clear c14
          by_cases c18 : a0 ≥ 20
          · rw [if_pos c18] at H
            have c18b0 : decide (20 ≤ a0) = true := decide_eq_true c18
            clear c18
            by_cases c19 : a0 ≤ 24
            · rw [if_pos c19] at H
              have c19b0 : decide (a0 ≤ 24) = true := decide_eq_true c19
              clear c19
              obtain rfl := Option.some.inj H
              go_enter Try.func16, Try.ntmps16
              go_wp2
              go_ret
              exact ⟨by first | rfl | (simp; done) | (simp [*]; done), by repeat (first | exact Drawn0.refl _ | apply Drawn0.step)⟩
            · rw [if_neg c19] at H
              have c19b0 : decide (a0 ≤ 24) = false := decide_eq_false c19
              clear c19
              obtain rfl := Option.some.inj H
              go_enter Try.func16, Try.ntmps16
              go_wp2
              go_ret
              exact ⟨by first | rfl | (simp; done) | (simp [*]; done), by repeat (first | exact Drawn0.refl _ | apply Drawn0.step)⟩
          · rw [if_neg c18] at H
            have c18b0 : decide (20 ≤ a0) = false := decide_eq_false c18
            clear c18
            obtain rfl := Option.some.inj H
            go_enter Try.func16, Try.ntmps16
            go_wp2
            go_ret
            exact ⟨by first | rfl | (simp; done) | (simp [*]; done), by repeat (first | exact Drawn0.refl _ | apply Drawn0.step)⟩

end Go.Proofs.Ytbilolgiihegiaa.P
