/- Go functions of this seat as Lean functions, each with a proof that the call answers just what its Lean function says; written by a program of this session (wip/tools/pr.py) over the kit's print. Conditions: what each theorem states. -/
import Derived.Test.YtoompkobcohehaaPx0
import Derived.Test.YtoompkobcohehaaPx2
import Derived.Test.YtoompkobcohehaaPx3
import Derived.Test.YtoompkobcohehaaPx4
import Derived.Test.YtoompkobcohehaaPx5
import Derived.Test.YtoompkobcohehaaPx7
import Derived.Test.YtoompkobcohehaaPx16
import Derived.Test.YtoompkobcohehaaPx17
import Derived.Test.YtoompkobcohehaaPx18
import Derived.Test.YtoompkobcohehaaPx19
import Derived.Test.YtoompkobcohehaaPx20
namespace Go.Proofs.Ytoompkobcohehaa.P
open Go.RowKit Go.Proofs.YtoompkobcohehaaW.PrintWords Go.Proofs.YtoompkobcohehaaW.PrintLast Go.Proofs.YtoompkobcohehaaW.PrintMore
attribute [local go_sem] max2_int min2_int max_two min_two max_three min_three max_four min_four   -- for this text's walks alone
set_option linter.unusedVariables false
set_option linter.unusedSimpArgs false

/-! ### busbarlaw07_CodeTells: function 3 -/
def busbarlaw07_CodeTells.f (a0 : Int) (a1 : Int) (a2 : Int) : Option (Bool) := (busbarlaw07_awake.f).bind fun t120 => (if t120 = true then ((code_Public.f a0).bind fun t121 => ((busbarref07_Public.f a0).bind fun t122 => (if (t121 == t122) = true then ((code_Failure.f a0).bind fun t123 => ((busbarref07_Failure.f a0).bind fun t124 => (if (t123 == t124) = true then ((code_Answers.f a0 a1).bind fun t125 => ((busbarref07_Answers.f a0 a1).bind fun t126 => (if (t125 == t126) = true then ((code_Broadcast.f a0).bind fun t127 => (if (t127 == (a0 == 0)) = true then ((code_Bits.f a2).bind fun t128 => ((busbarref07_Sub.f a2).bind fun t129 => (some (t128 == t129)))) else (some false))) else (some false)))) else (some false)))) else (some false)))) else (some false))
set_option maxHeartbeats 8000000 in
set_option maxRecDepth 100000 in
theorem busbarlaw07_CodeTells.calls (a0 : Int) (a1 : Int) (a2 : Int) (r : Bool) (w : World) (h : busbarlaw07_CodeTells.f a0 a1 a2 = some r) :
    Calls Try.prog 3 #[.int .u8 a0, .int .u8 a1, .int .u16 a2] w fun e w' => e = .returned (.bool r) ∧ Below w.heap.size w w' := by
  have HB := Aside0.mk (Below.refl w.heap.size w)
  have H : ((busbarlaw07_awake.f).bind fun t120 => (if t120 = true then ((code_Public.f a0).bind fun t121 => ((busbarref07_Public.f a0).bind fun t122 => (if (t121 == t122) = true then ((code_Failure.f a0).bind fun t123 => ((busbarref07_Failure.f a0).bind fun t124 => (if (t123 == t124) = true then ((code_Answers.f a0 a1).bind fun t125 => ((busbarref07_Answers.f a0 a1).bind fun t126 => (if (t125 == t126) = true then ((code_Broadcast.f a0).bind fun t127 => (if (t127 == (a0 == 0)) = true then ((code_Bits.f a2).bind fun t128 => ((busbarref07_Sub.f a2).bind fun t129 => (some (t128 == t129)))) else (some false))) else (some false)))) else (some false)))) else (some false)))) else (some false))) = some r := h
  clear h
  replace H := Option.bind_eq_some_iff.mp H
  obtain ⟨t120, A40, H⟩ := H
  replace H : (if t120 = true then ((code_Public.f a0).bind fun t121 => ((busbarref07_Public.f a0).bind fun t122 => (if (t121 == t122) = true then ((code_Failure.f a0).bind fun t123 => ((busbarref07_Failure.f a0).bind fun t124 => (if (t123 == t124) = true then ((code_Answers.f a0 a1).bind fun t125 => ((busbarref07_Answers.f a0 a1).bind fun t126 => (if (t125 == t126) = true then ((code_Broadcast.f a0).bind fun t127 => (if (t127 == (a0 == 0)) = true then ((code_Bits.f a2).bind fun t128 => ((busbarref07_Sub.f a2).bind fun t129 => (some (t128 == t129)))) else (some false))) else (some false)))) else (some false)))) else (some false)))) else (some false)) = some r := H
  have A4 := Aside0.mk A40
  clear A40
  by_cases c5 : t120 = true
  · subst c5
    have H1 : ((code_Public.f a0).bind fun t121 => ((busbarref07_Public.f a0).bind fun t122 => (if (t121 == t122) = true then ((code_Failure.f a0).bind fun t123 => ((busbarref07_Failure.f a0).bind fun t124 => (if (t123 == t124) = true then ((code_Answers.f a0 a1).bind fun t125 => ((busbarref07_Answers.f a0 a1).bind fun t126 => (if (t125 == t126) = true then ((code_Broadcast.f a0).bind fun t127 => (if (t127 == (a0 == 0)) = true then ((code_Bits.f a2).bind fun t128 => ((busbarref07_Sub.f a2).bind fun t129 => (some (t128 == t129)))) else (some false))) else (some false)))) else (some false)))) else (some false)))) = some r := by rw [if_pos rfl] at H; exact H
    clear H
    have H := H1
    clear H1
    replace H := Option.bind_eq_some_iff.mp H
    obtain ⟨t121, A60, H⟩ := H
    replace H : ((busbarref07_Public.f a0).bind fun t122 => (if (t121 == t122) = true then ((code_Failure.f a0).bind fun t123 => ((busbarref07_Failure.f a0).bind fun t124 => (if (t123 == t124) = true then ((code_Answers.f a0 a1).bind fun t125 => ((busbarref07_Answers.f a0 a1).bind fun t126 => (if (t125 == t126) = true then ((code_Broadcast.f a0).bind fun t127 => (if (t127 == (a0 == 0)) = true then ((code_Bits.f a2).bind fun t128 => ((busbarref07_Sub.f a2).bind fun t129 => (some (t128 == t129)))) else (some false))) else (some false)))) else (some false)))) else (some false))) = some r := H
    have A6 := Aside0.mk A60
    clear A60
    replace H := Option.bind_eq_some_iff.mp H
    obtain ⟨t122, A70, H⟩ := H
    replace H : (if (t121 == t122) = true then ((code_Failure.f a0).bind fun t123 => ((busbarref07_Failure.f a0).bind fun t124 => (if (t123 == t124) = true then ((code_Answers.f a0 a1).bind fun t125 => ((busbarref07_Answers.f a0 a1).bind fun t126 => (if (t125 == t126) = true then ((code_Broadcast.f a0).bind fun t127 => (if (t127 == (a0 == 0)) = true then ((code_Bits.f a2).bind fun t128 => ((busbarref07_Sub.f a2).bind fun t129 => (some (t128 == t129)))) else (some false))) else (some false)))) else (some false)))) else (some false)) = some r := H
    have A7 := Aside0.mk A70
    clear A70
    by_cases c8 : (t121 == t122) = true
    · rw [if_pos c8] at H
      have c8b0 : (t121 == t122) = true := c8
      (try (have c8b1 : decide (t121 = t122) = true := by simpa using c8))
      (try (have c8b2 : (t121 == t122) = true := by simpa using c8))
      clear c8
      replace H := Option.bind_eq_some_iff.mp H
      obtain ⟨t123, A90, H⟩ := H
      replace H : ((busbarref07_Failure.f a0).bind fun t124 => (if (t123 == t124) = true then ((code_Answers.f a0 a1).bind fun t125 => ((busbarref07_Answers.f a0 a1).bind fun t126 => (if (t125 == t126) = true then ((code_Broadcast.f a0).bind fun t127 => (if (t127 == (a0 == 0)) = true then ((code_Bits.f a2).bind fun t128 => ((busbarref07_Sub.f a2).bind fun t129 => (some (t128 == t129)))) else (some false))) else (some false)))) else (some false))) = some r := H
      have A9 := Aside0.mk A90
      clear A90
      replace H := Option.bind_eq_some_iff.mp H
      obtain ⟨t124, A100, H⟩ := H
      replace H : (if (t123 == t124) = true then ((code_Answers.f a0 a1).bind fun t125 => ((busbarref07_Answers.f a0 a1).bind fun t126 => (if (t125 == t126) = true then ((code_Broadcast.f a0).bind fun t127 => (if (t127 == (a0 == 0)) = true then ((code_Bits.f a2).bind fun t128 => ((busbarref07_Sub.f a2).bind fun t129 => (some (t128 == t129)))) else (some false))) else (some false)))) else (some false)) = some r := H
      have A10 := Aside0.mk A100
      clear A100
      by_cases c11 : (t123 == t124) = true
      · rw [if_pos c11] at H
        have c11b0 : (t123 == t124) = true := c11
        (try (have c11b1 : decide (t123 = t124) = true := by simpa using c11))
        (try (have c11b2 : (t123 == t124) = true := by simpa using c11))
        clear c11
        replace H := Option.bind_eq_some_iff.mp H
        obtain ⟨t125, A120, H⟩ := H
        replace H : ((busbarref07_Answers.f a0 a1).bind fun t126 => (if (t125 == t126) = true then ((code_Broadcast.f a0).bind fun t127 => (if (t127 == (a0 == 0)) = true then ((code_Bits.f a2).bind fun t128 => ((busbarref07_Sub.f a2).bind fun t129 => (some (t128 == t129)))) else (some false))) else (some false))) = some r := H
        have A12 := Aside0.mk A120
        clear A120
        replace H := Option.bind_eq_some_iff.mp H
        obtain ⟨t126, A130, H⟩ := H
        replace H : (if (t125 == t126) = true then ((code_Broadcast.f a0).bind fun t127 => (if (t127 == (a0 == 0)) = true then ((code_Bits.f a2).bind fun t128 => ((busbarref07_Sub.f a2).bind fun t129 => (some (t128 == t129)))) else (some false))) else (some false)) = some r := H
        have A13 := Aside0.mk A130
        clear A130
        by_cases c14 : (t125 == t126) = true
        · rw [if_pos c14] at H
          have c14b0 : (t125 == t126) = true := c14
          (try (have c14b1 : decide (t125 = t126) = true := by simpa using c14))
          (try (have c14b2 : (t125 == t126) = true := by simpa using c14))
          clear c14
          replace H := Option.bind_eq_some_iff.mp H
          obtain ⟨t127, A150, H⟩ := H
          replace H : (if (t127 == (a0 == 0)) = true then ((code_Bits.f a2).bind fun t128 => ((busbarref07_Sub.f a2).bind fun t129 => (some (t128 == t129)))) else (some false)) = some r := H
          have A15 := Aside0.mk A150
          clear A150
          by_cases c16 : (t127 == (a0 == 0)) = true
          · rw [if_pos c16] at H
            have c16b0 : (t127 == (a0 == 0)) = true := c16
            (try (have c16b1 : decide (t127 = (a0 == 0)) = true := by simpa using c16))
            (try (have c16b2 : (t127 == (a0 == 0)) = true := by simpa using c16))
            clear c16
            replace H := Option.bind_eq_some_iff.mp H
            obtain ⟨t128, A170, H⟩ := H
            replace H : ((busbarref07_Sub.f a2).bind fun t129 => (some (t128 == t129))) = some r := H
            have A17 := Aside0.mk A170
            clear A170
            replace H := Option.bind_eq_some_iff.mp H
            obtain ⟨t129, A180, H⟩ := H
            replace H : (some (t128 == t129)) = some r := H
            have A18 := Aside0.mk A180
            clear A180
            obtain rfl := Option.some.inj H
            go_enter Try.func3, Try.ntmps3
            go_wp2_with (first | ((with_reducible refine gate_callee (f := 7) rfl ?_); refine goesL_ (some 8) rfl rfl Try.func7 (by kernel_rfl) rfl #[] rfl (by (try simp only [List.map_toArray, List.map_cons, List.map_nil]); first | done | rfl | (simp only [List.length_drop, List.length_take]; rfl)) ?_; (with_reducible refine (busbarlaw07_awake.calls  true _ A4.out).mono ?_); rintro e w19 ⟨rfl, hb⟩; refine ⟨_, rfl, ?_⟩; have n0_ := Aside0.mk (below_step (by repeat (first | (with_reducible first | exact HB.out | apply below_alloc | apply pw_below_drewN | apply below_drew1) | exact HB.out)) hb); clear HB; have HB := n0_; clear n0_; (try clear hb); (try clear hb2); (try clear hk); (try clear hi)) | (go_at_call 8; (with_reducible refine (code_Public.calls a0 t121 _ A6.out).mono ?_); rintro e w20 ⟨rfl, hb⟩; have n0_ := Aside0.mk (below_step (by repeat (first | (with_reducible first | exact HB.out | apply below_alloc | apply pw_below_drewN | apply below_drew1) | exact HB.out)) hb); clear HB; have HB := n0_; clear n0_; (try clear hb); (try clear hb2); (try clear hk); (try clear hi)) | (go_at_call 9; (with_reducible refine (busbarref07_Public.calls a0 t122 _ A7.out).mono ?_); rintro e w' ⟨rfl, ⟨nd, rfl⟩⟩) | (go_at_call 10; (with_reducible refine (code_Failure.calls a0 t123 _ A9.out).mono ?_); rintro e w21 ⟨rfl, hb⟩; have n0_ := Aside0.mk (below_step (by repeat (first | (with_reducible first | exact HB.out | apply below_alloc | apply pw_below_drewN | apply below_drew1) | exact HB.out)) hb); clear HB; have HB := n0_; clear n0_; (try clear hb); (try clear hb2); (try clear hk); (try clear hi)) | (go_at_call 11; (with_reducible refine (busbarref07_Failure.calls a0 t124 _ A10.out).mono ?_); rintro e w' ⟨rfl, ⟨nd, rfl⟩⟩) | (go_at_call 12; (with_reducible refine (code_Answers.calls a0 a1 t125 _ A12.out).mono ?_); rintro e w' ⟨rfl, ⟨nd, rfl⟩⟩) | (go_at_call 13; (with_reducible refine (busbarref07_Answers.calls a0 a1 t126 _ A13.out).mono ?_); rintro e w' ⟨rfl, ⟨nd, rfl⟩⟩) | (go_at_call 14; (with_reducible refine (code_Broadcast.calls a0 t127 _ A15.out).mono ?_); rintro e w' ⟨rfl, ⟨nd, rfl⟩⟩) | (go_at_call 15; (with_reducible refine (code_Bits.calls a2 t128 _ A17.out).mono ?_); rintro e w22 ⟨rfl, hb⟩; have n0_ := Aside0.mk (below_step (by repeat (first | (with_reducible first | exact HB.out | apply below_alloc | apply pw_below_drewN | apply below_drew1) | exact HB.out)) hb); clear HB; have HB := n0_; clear n0_; (try clear hb); (try clear hb2); (try clear hk); (try clear hi)) | (go_at_call 16; (with_reducible refine (busbarref07_Sub.calls a2 t129 _ A18.out).mono ?_); rintro e w' ⟨rfl, ⟨nd, rfl⟩⟩))
            go_ret
            exact ⟨by first | rfl | (simp [errW_none, errW_some] <;> rfl) | (simp [*, errW_none, errW_some] <;> rfl), by repeat (first | (with_reducible first | exact HB.out | apply below_alloc | apply pw_below_drewN | apply below_drew1) | exact HB.out)⟩
          · rw [if_neg c16] at H
            have c16b0 : (t127 == (a0 == 0)) = false := by simpa using c16
            (try (have c16b1 : decide (t127 = (a0 == 0)) = false := by simpa using c16))
            (try (have c16b2 : (t127 == (a0 == 0)) = false := by simpa using c16))
            (try (have c16b3 : ¬ (t127 = (a0 == 0)) := by simpa using c16))
            clear c16
            obtain rfl := Option.some.inj H
            go_enter Try.func3, Try.ntmps3
            go_wp2_with (first | ((with_reducible refine gate_callee (f := 7) rfl ?_); refine goesL_ (some 8) rfl rfl Try.func7 (by kernel_rfl) rfl #[] rfl (by (try simp only [List.map_toArray, List.map_cons, List.map_nil]); first | done | rfl | (simp only [List.length_drop, List.length_take]; rfl)) ?_; (with_reducible refine (busbarlaw07_awake.calls  true _ A4.out).mono ?_); rintro e w23 ⟨rfl, hb⟩; refine ⟨_, rfl, ?_⟩; have n0_ := Aside0.mk (below_step (by repeat (first | (with_reducible first | exact HB.out | apply below_alloc | apply pw_below_drewN | apply below_drew1) | exact HB.out)) hb); clear HB; have HB := n0_; clear n0_; (try clear hb); (try clear hb2); (try clear hk); (try clear hi)) | (go_at_call 8; (with_reducible refine (code_Public.calls a0 t121 _ A6.out).mono ?_); rintro e w24 ⟨rfl, hb⟩; have n0_ := Aside0.mk (below_step (by repeat (first | (with_reducible first | exact HB.out | apply below_alloc | apply pw_below_drewN | apply below_drew1) | exact HB.out)) hb); clear HB; have HB := n0_; clear n0_; (try clear hb); (try clear hb2); (try clear hk); (try clear hi)) | (go_at_call 9; (with_reducible refine (busbarref07_Public.calls a0 t122 _ A7.out).mono ?_); rintro e w' ⟨rfl, ⟨nd, rfl⟩⟩) | (go_at_call 10; (with_reducible refine (code_Failure.calls a0 t123 _ A9.out).mono ?_); rintro e w25 ⟨rfl, hb⟩; have n0_ := Aside0.mk (below_step (by repeat (first | (with_reducible first | exact HB.out | apply below_alloc | apply pw_below_drewN | apply below_drew1) | exact HB.out)) hb); clear HB; have HB := n0_; clear n0_; (try clear hb); (try clear hb2); (try clear hk); (try clear hi)) | (go_at_call 11; (with_reducible refine (busbarref07_Failure.calls a0 t124 _ A10.out).mono ?_); rintro e w' ⟨rfl, ⟨nd, rfl⟩⟩) | (go_at_call 12; (with_reducible refine (code_Answers.calls a0 a1 t125 _ A12.out).mono ?_); rintro e w' ⟨rfl, ⟨nd, rfl⟩⟩) | (go_at_call 13; (with_reducible refine (busbarref07_Answers.calls a0 a1 t126 _ A13.out).mono ?_); rintro e w' ⟨rfl, ⟨nd, rfl⟩⟩) | (go_at_call 14; (with_reducible refine (code_Broadcast.calls a0 t127 _ A15.out).mono ?_); rintro e w' ⟨rfl, ⟨nd, rfl⟩⟩))
            go_ret
            exact ⟨by first | rfl | (simp [errW_none, errW_some] <;> rfl) | (simp [*, errW_none, errW_some] <;> rfl), by repeat (first | (with_reducible first | exact HB.out | apply below_alloc | apply pw_below_drewN | apply below_drew1) | exact HB.out)⟩
        · rw [if_neg c14] at H
          have c14b0 : (t125 == t126) = false := by simpa using c14
          (try (have c14b1 : decide (t125 = t126) = false := by simpa using c14))
          (try (have c14b2 : (t125 == t126) = false := by simpa using c14))
          (try (have c14b3 : ¬ (t125 = t126) := by simpa using c14))
          clear c14
          obtain rfl := Option.some.inj H
          go_enter Try.func3, Try.ntmps3
          go_wp2_with (first | ((with_reducible refine gate_callee (f := 7) rfl ?_); refine goesL_ (some 8) rfl rfl Try.func7 (by kernel_rfl) rfl #[] rfl (by (try simp only [List.map_toArray, List.map_cons, List.map_nil]); first | done | rfl | (simp only [List.length_drop, List.length_take]; rfl)) ?_; (with_reducible refine (busbarlaw07_awake.calls  true _ A4.out).mono ?_); rintro e w26 ⟨rfl, hb⟩; refine ⟨_, rfl, ?_⟩; have n0_ := Aside0.mk (below_step (by repeat (first | (with_reducible first | exact HB.out | apply below_alloc | apply pw_below_drewN | apply below_drew1) | exact HB.out)) hb); clear HB; have HB := n0_; clear n0_; (try clear hb); (try clear hb2); (try clear hk); (try clear hi)) | (go_at_call 8; (with_reducible refine (code_Public.calls a0 t121 _ A6.out).mono ?_); rintro e w27 ⟨rfl, hb⟩; have n0_ := Aside0.mk (below_step (by repeat (first | (with_reducible first | exact HB.out | apply below_alloc | apply pw_below_drewN | apply below_drew1) | exact HB.out)) hb); clear HB; have HB := n0_; clear n0_; (try clear hb); (try clear hb2); (try clear hk); (try clear hi)) | (go_at_call 9; (with_reducible refine (busbarref07_Public.calls a0 t122 _ A7.out).mono ?_); rintro e w' ⟨rfl, ⟨nd, rfl⟩⟩) | (go_at_call 10; (with_reducible refine (code_Failure.calls a0 t123 _ A9.out).mono ?_); rintro e w28 ⟨rfl, hb⟩; have n0_ := Aside0.mk (below_step (by repeat (first | (with_reducible first | exact HB.out | apply below_alloc | apply pw_below_drewN | apply below_drew1) | exact HB.out)) hb); clear HB; have HB := n0_; clear n0_; (try clear hb); (try clear hb2); (try clear hk); (try clear hi)) | (go_at_call 11; (with_reducible refine (busbarref07_Failure.calls a0 t124 _ A10.out).mono ?_); rintro e w' ⟨rfl, ⟨nd, rfl⟩⟩) | (go_at_call 12; (with_reducible refine (code_Answers.calls a0 a1 t125 _ A12.out).mono ?_); rintro e w' ⟨rfl, ⟨nd, rfl⟩⟩) | (go_at_call 13; (with_reducible refine (busbarref07_Answers.calls a0 a1 t126 _ A13.out).mono ?_); rintro e w' ⟨rfl, ⟨nd, rfl⟩⟩))
          go_ret
          exact ⟨by first | rfl | (simp [errW_none, errW_some] <;> rfl) | (simp [*, errW_none, errW_some] <;> rfl), by repeat (first | (with_reducible first | exact HB.out | apply below_alloc | apply pw_below_drewN | apply below_drew1) | exact HB.out)⟩
      · rw [if_neg c11] at H
        have c11b0 : (t123 == t124) = false := by simpa using c11
        (try (have c11b1 : decide (t123 = t124) = false := by simpa using c11))
        (try (have c11b2 : (t123 == t124) = false := by simpa using c11))
        (try (have c11b3 : ¬ (t123 = t124) := by simpa using c11))
        clear c11
        obtain rfl := Option.some.inj H
        go_enter Try.func3, Try.ntmps3
        go_wp2_with (first | ((with_reducible refine gate_callee (f := 7) rfl ?_); refine goesL_ (some 8) rfl rfl Try.func7 (by kernel_rfl) rfl #[] rfl (by (try simp only [List.map_toArray, List.map_cons, List.map_nil]); first | done | rfl | (simp only [List.length_drop, List.length_take]; rfl)) ?_; (with_reducible refine (busbarlaw07_awake.calls  true _ A4.out).mono ?_); rintro e w29 ⟨rfl, hb⟩; refine ⟨_, rfl, ?_⟩; have n0_ := Aside0.mk (below_step (by repeat (first | (with_reducible first | exact HB.out | apply below_alloc | apply pw_below_drewN | apply below_drew1) | exact HB.out)) hb); clear HB; have HB := n0_; clear n0_; (try clear hb); (try clear hb2); (try clear hk); (try clear hi)) | (go_at_call 8; (with_reducible refine (code_Public.calls a0 t121 _ A6.out).mono ?_); rintro e w30 ⟨rfl, hb⟩; have n0_ := Aside0.mk (below_step (by repeat (first | (with_reducible first | exact HB.out | apply below_alloc | apply pw_below_drewN | apply below_drew1) | exact HB.out)) hb); clear HB; have HB := n0_; clear n0_; (try clear hb); (try clear hb2); (try clear hk); (try clear hi)) | (go_at_call 9; (with_reducible refine (busbarref07_Public.calls a0 t122 _ A7.out).mono ?_); rintro e w' ⟨rfl, ⟨nd, rfl⟩⟩) | (go_at_call 10; (with_reducible refine (code_Failure.calls a0 t123 _ A9.out).mono ?_); rintro e w31 ⟨rfl, hb⟩; have n0_ := Aside0.mk (below_step (by repeat (first | (with_reducible first | exact HB.out | apply below_alloc | apply pw_below_drewN | apply below_drew1) | exact HB.out)) hb); clear HB; have HB := n0_; clear n0_; (try clear hb); (try clear hb2); (try clear hk); (try clear hi)) | (go_at_call 11; (with_reducible refine (busbarref07_Failure.calls a0 t124 _ A10.out).mono ?_); rintro e w' ⟨rfl, ⟨nd, rfl⟩⟩))
        go_ret
        exact ⟨by first | rfl | (simp [errW_none, errW_some] <;> rfl) | (simp [*, errW_none, errW_some] <;> rfl), by repeat (first | (with_reducible first | exact HB.out | apply below_alloc | apply pw_below_drewN | apply below_drew1) | exact HB.out)⟩
    · rw [if_neg c8] at H
      have c8b0 : (t121 == t122) = false := by simpa using c8
      (try (have c8b1 : decide (t121 = t122) = false := by simpa using c8))
      (try (have c8b2 : (t121 == t122) = false := by simpa using c8))
      (try (have c8b3 : ¬ (t121 = t122) := by simpa using c8))
      clear c8
      obtain rfl := Option.some.inj H
      go_enter Try.func3, Try.ntmps3
      go_wp2_with (first | ((with_reducible refine gate_callee (f := 7) rfl ?_); refine goesL_ (some 8) rfl rfl Try.func7 (by kernel_rfl) rfl #[] rfl (by (try simp only [List.map_toArray, List.map_cons, List.map_nil]); first | done | rfl | (simp only [List.length_drop, List.length_take]; rfl)) ?_; (with_reducible refine (busbarlaw07_awake.calls  true _ A4.out).mono ?_); rintro e w32 ⟨rfl, hb⟩; refine ⟨_, rfl, ?_⟩; have n0_ := Aside0.mk (below_step (by repeat (first | (with_reducible first | exact HB.out | apply below_alloc | apply pw_below_drewN | apply below_drew1) | exact HB.out)) hb); clear HB; have HB := n0_; clear n0_; (try clear hb); (try clear hb2); (try clear hk); (try clear hi)) | (go_at_call 8; (with_reducible refine (code_Public.calls a0 t121 _ A6.out).mono ?_); rintro e w33 ⟨rfl, hb⟩; have n0_ := Aside0.mk (below_step (by repeat (first | (with_reducible first | exact HB.out | apply below_alloc | apply pw_below_drewN | apply below_drew1) | exact HB.out)) hb); clear HB; have HB := n0_; clear n0_; (try clear hb); (try clear hb2); (try clear hk); (try clear hi)) | (go_at_call 9; (with_reducible refine (busbarref07_Public.calls a0 t122 _ A7.out).mono ?_); rintro e w' ⟨rfl, ⟨nd, rfl⟩⟩))
      go_ret
      exact ⟨by first | rfl | (simp [errW_none, errW_some] <;> rfl) | (simp [*, errW_none, errW_some] <;> rfl), by repeat (first | (with_reducible first | exact HB.out | apply below_alloc | apply pw_below_drewN | apply below_drew1) | exact HB.out)⟩
  · replace c5 := Bool.eq_false_iff.mpr c5
    subst c5
    have H1 : (some false) = some r := by rw [if_neg (show ¬ (false = true) by decide)] at H; exact H
    clear H
    have H := H1
    clear H1
    obtain rfl := Option.some.inj H
    go_enter Try.func3, Try.ntmps3
    go_wp2_with (first | ((with_reducible refine gate_callee (f := 7) rfl ?_); refine goesL_ (some 8) rfl rfl Try.func7 (by kernel_rfl) rfl #[] rfl (by (try simp only [List.map_toArray, List.map_cons, List.map_nil]); first | done | rfl | (simp only [List.length_drop, List.length_take]; rfl)) ?_; (with_reducible refine (busbarlaw07_awake.calls  false _ A4.out).mono ?_); rintro e w34 ⟨rfl, hb⟩; refine ⟨_, rfl, ?_⟩; have n0_ := Aside0.mk (below_step (by repeat (first | (with_reducible first | exact HB.out | apply below_alloc | apply pw_below_drewN | apply below_drew1) | exact HB.out)) hb); clear HB; have HB := n0_; clear n0_; (try clear hb); (try clear hb2); (try clear hk); (try clear hi)))
    go_ret
    exact ⟨by first | rfl | (simp [errW_none, errW_some] <;> rfl) | (simp [*, errW_none, errW_some] <;> rfl), by repeat (first | (with_reducible first | exact HB.out | apply below_alloc | apply pw_below_drewN | apply below_drew1) | exact HB.out)⟩

/-- THE ONE PURE STATEMENT of busbarlaw07_CodeTells: yours. -/
def busbarlaw07_CodeTells.Pure : Prop := ∀ (a0 : Int) (a1 : Int) (a2 : Int), (Lit.int .u8 a0).wf = true → (Lit.int .u8 a1).wf = true → (Lit.int .u16 a2).wf = true → busbarlaw07_CodeTells.f a0 a1 a2 = some true
theorem busbarlaw07_CodeTells.walk (P : busbarlaw07_CodeTells.Pure) (a0 : Int) (a1 : Int) (a2 : Int) (w : World) (w0 : (Lit.int .u8 a0).wf = true) (w1 : (Lit.int .u8 a1).wf = true) (w2 : (Lit.int .u16 a2).wf = true) :
    Calls Try.prog 3 #[.int .u8 a0, .int .u8 a1, .int .u16 a2] w fun e w' => e = .returned (.bool true) ∧ Below w.heap.size w w' := by
  have h := P a0 a1 a2 w0 w1 w2
  refine (busbarlaw07_CodeTells.calls a0 a1 a2 true w h).mono ?_
  rintro e w' ⟨rfl, hd⟩
  exact ⟨rfl, hd⟩

end Go.Proofs.Ytoompkobcohehaa.P
