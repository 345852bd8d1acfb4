/- Go functions of this seat as Lean functions, each with a proof that the call answers just what its Lean function says; written by a program of this session (wip/tools/pr.py) over the kit's print. Conditions: what each theorem states. -/
import Derived.Test.YtoompkobcohehaaPx0
import Derived.Test.YtoompkobcohehaaPx2
import Derived.Test.YtoompkobcohehaaPx3
import Derived.Test.YtoompkobcohehaaPx4
import Derived.Test.YtoompkobcohehaaPx5
import Derived.Test.YtoompkobcohehaaPx7
import Derived.Test.YtoompkobcohehaaPx15
namespace Go.Proofs.Ytoompkobcohehaa.P
open Go.RowKit Go.Proofs.YtoompkobcohehaaW.PrintWords Go.Proofs.YtoompkobcohehaaW.PrintLast Go.Proofs.YtoompkobcohehaaW.PrintMore
attribute [local go_sem] max2_int min2_int max_two min_two max_three min_three max_four min_four   -- for this text's walks alone
set_option linter.unusedVariables false
set_option linter.unusedSimpArgs false

/-! ### busbarlaw07_awake: function 7 -/
def busbarlaw07_awake.f  : Option (Bool) := (code_Public.f 43).bind fun t110 => (if t110 = true then ((code_Public.f 44).bind fun t111 => (if t111 = true then (some false) else ((code_Answers.f 3 131).bind fun t112 => (if t112 = true then ((code_Failure.f 11).bind fun t113 => (if t113 = true then ((code_Broadcast.f 0).bind fun t114 => (if t114 = true then ((code_Bits.f 20).bind fun t115 => (if t115 = true then ((code_Same.f 3 0 0 0 0 0 0 0 0 0 0 0 ([] : List Int) ([] : List Bool) (([] : List Int)) ([] : List (S43)) 0 0 0 0 0 ([] : List (S45)) 3 0 0 0 0 0 0 0 0 0 0 0 ([] : List Int) ([] : List Bool) ([] : List Int) ([] : List (S43)) 0 0 0 0 0 ([] : List (S45))).bind fun t119 => (some t119)) else (some false))) else (some false))) else (some false))) else (some false))))) else (some false))
set_option maxHeartbeats 8000000 in
set_option maxRecDepth 100000 in
theorem busbarlaw07_awake.calls  (r : Bool) (w : World) (h : busbarlaw07_awake.f  = some r) :
    Calls Try.prog 7 #[] w fun e w' => e = .returned (.bool r) ∧ Below w.heap.size w w' := by
  have hu35 := Try.underlying35
  have HB := Aside0.mk (Below.refl w.heap.size w)
  have H : ((code_Public.f 43).bind fun t110 => (if t110 = true then ((code_Public.f 44).bind fun t111 => (if t111 = true then (some false) else ((code_Answers.f 3 131).bind fun t112 => (if t112 = true then ((code_Failure.f 11).bind fun t113 => (if t113 = true then ((code_Broadcast.f 0).bind fun t114 => (if t114 = true then ((code_Bits.f 20).bind fun t115 => (if t115 = true then ((code_Same.f 3 0 0 0 0 0 0 0 0 0 0 0 ([] : List Int) ([] : List Bool) (([] : List Int)) ([] : List (S43)) 0 0 0 0 0 ([] : List (S45)) 3 0 0 0 0 0 0 0 0 0 0 0 ([] : List Int) ([] : List Bool) ([] : List Int) ([] : List (S43)) 0 0 0 0 0 ([] : List (S45))).bind fun t119 => (some t119)) else (some false))) else (some false))) else (some false))) else (some false))))) else (some false))) = some r := h
  clear h
  replace H := Option.bind_eq_some_iff.mp H
  obtain ⟨t110, A10, H⟩ := H
  replace H : (if t110 = true then ((code_Public.f 44).bind fun t111 => (if t111 = true then (some false) else ((code_Answers.f 3 131).bind fun t112 => (if t112 = true then ((code_Failure.f 11).bind fun t113 => (if t113 = true then ((code_Broadcast.f 0).bind fun t114 => (if t114 = true then ((code_Bits.f 20).bind fun t115 => (if t115 = true then ((code_Same.f 3 0 0 0 0 0 0 0 0 0 0 0 ([] : List Int) ([] : List Bool) (([] : List Int)) ([] : List (S43)) 0 0 0 0 0 ([] : List (S45)) 3 0 0 0 0 0 0 0 0 0 0 0 ([] : List Int) ([] : List Bool) ([] : List Int) ([] : List (S43)) 0 0 0 0 0 ([] : List (S45))).bind fun t119 => (some t119)) else (some false))) else (some false))) else (some false))) else (some false))))) else (some false)) = some r := H
  have A1 := Aside0.mk A10
  clear A10
  by_cases c2 : t110 = true
  · subst c2
    have H1 : ((code_Public.f 44).bind fun t111 => (if t111 = true then (some false) else ((code_Answers.f 3 131).bind fun t112 => (if t112 = true then ((code_Failure.f 11).bind fun t113 => (if t113 = true then ((code_Broadcast.f 0).bind fun t114 => (if t114 = true then ((code_Bits.f 20).bind fun t115 => (if t115 = true then ((code_Same.f 3 0 0 0 0 0 0 0 0 0 0 0 ([] : List Int) ([] : List Bool) (([] : List Int)) ([] : List (S43)) 0 0 0 0 0 ([] : List (S45)) 3 0 0 0 0 0 0 0 0 0 0 0 ([] : List Int) ([] : List Bool) ([] : List Int) ([] : List (S43)) 0 0 0 0 0 ([] : List (S45))).bind fun t119 => (some t119)) else (some false))) else (some false))) else (some false))) else (some false))))) = some r := by rw [if_pos rfl] at H; exact H
    clear H
    have H := H1
    clear H1
    replace H := Option.bind_eq_some_iff.mp H
    obtain ⟨t111, A30, H⟩ := H
    replace H : (if t111 = true then (some false) else ((code_Answers.f 3 131).bind fun t112 => (if t112 = true then ((code_Failure.f 11).bind fun t113 => (if t113 = true then ((code_Broadcast.f 0).bind fun t114 => (if t114 = true then ((code_Bits.f 20).bind fun t115 => (if t115 = true then ((code_Same.f 3 0 0 0 0 0 0 0 0 0 0 0 ([] : List Int) ([] : List Bool) (([] : List Int)) ([] : List (S43)) 0 0 0 0 0 ([] : List (S45)) 3 0 0 0 0 0 0 0 0 0 0 0 ([] : List Int) ([] : List Bool) ([] : List Int) ([] : List (S43)) 0 0 0 0 0 ([] : List (S45))).bind fun t119 => (some t119)) else (some false))) else (some false))) else (some false))) else (some false)))) = some r := H
    have A3 := Aside0.mk A30
    clear A30
    by_cases c4 : t111 = true
    · subst c4
      have H1 : (some false) = some r := by rw [if_pos rfl] at H; exact H
      clear H
      have H := H1
      clear H1
      obtain rfl := Option.some.inj H
      go_enter Try.func7, Try.ntmps7
      go_wp2_with (first | ((with_reducible refine gate_callee (f := 8) rfl ?_); refine goesL_ (some 1) rfl rfl Try.func8 (by kernel_rfl) rfl #[.int .u8 43] rfl (by (try simp only [List.map_toArray, List.map_cons, List.map_nil]); first | done | rfl | (simp only [List.length_drop, List.length_take]; rfl)) ?_; (with_reducible refine (code_Public.calls 43 true _ A1.out).mono ?_); rintro e w5 ⟨rfl, hb⟩; refine ⟨_, rfl, ?_⟩; have n0_ := Aside0.mk (below_step (by repeat (first | (with_reducible first | exact HB.out | apply below_alloc | apply pw_below_drewN | apply below_drew1) | exact HB.out)) hb); clear HB; have HB := n0_; clear n0_; (try clear hb); (try clear hb2); (try clear hk); (try clear hi)) | (go_at_call 8; (with_reducible refine (code_Public.calls 44 true _ A3.out).mono ?_); rintro e w6 ⟨rfl, hb⟩; have n0_ := Aside0.mk (below_step (by repeat (first | (with_reducible first | exact HB.out | apply below_alloc | apply pw_below_drewN | apply below_drew1) | exact HB.out)) hb); clear HB; have HB := n0_; clear n0_; (try clear hb); (try clear hb2); (try clear hk); (try clear hi)))
      go_ret
      exact ⟨by first | rfl | (simp [errW_none, errW_some] <;> rfl) | (simp [*, errW_none, errW_some] <;> rfl), by repeat (first | (with_reducible first | exact HB.out | apply below_alloc | apply pw_below_drewN | apply below_drew1) | exact HB.out)⟩
    · replace c4 := Bool.eq_false_iff.mpr c4
      subst c4
      have H1 : ((code_Answers.f 3 131).bind fun t112 => (if t112 = true then ((code_Failure.f 11).bind fun t113 => (if t113 = true then ((code_Broadcast.f 0).bind fun t114 => (if t114 = true then ((code_Bits.f 20).bind fun t115 => (if t115 = true then ((code_Same.f 3 0 0 0 0 0 0 0 0 0 0 0 ([] : List Int) ([] : List Bool) (([] : List Int)) ([] : List (S43)) 0 0 0 0 0 ([] : List (S45)) 3 0 0 0 0 0 0 0 0 0 0 0 ([] : List Int) ([] : List Bool) ([] : List Int) ([] : List (S43)) 0 0 0 0 0 ([] : List (S45))).bind fun t119 => (some t119)) else (some false))) else (some false))) else (some false))) else (some false))) = some r := by rw [if_neg (show ¬ (false = true) by decide)] at H; exact H
      clear H
      have H := H1
      clear H1
      replace H := Option.bind_eq_some_iff.mp H
      obtain ⟨t112, A70, H⟩ := H
      replace H : (if t112 = true then ((code_Failure.f 11).bind fun t113 => (if t113 = true then ((code_Broadcast.f 0).bind fun t114 => (if t114 = true then ((code_Bits.f 20).bind fun t115 => (if t115 = true then ((code_Same.f 3 0 0 0 0 0 0 0 0 0 0 0 ([] : List Int) ([] : List Bool) (([] : List Int)) ([] : List (S43)) 0 0 0 0 0 ([] : List (S45)) 3 0 0 0 0 0 0 0 0 0 0 0 ([] : List Int) ([] : List Bool) ([] : List Int) ([] : List (S43)) 0 0 0 0 0 ([] : List (S45))).bind fun t119 => (some t119)) else (some false))) else (some false))) else (some false))) else (some false)) = some r := H
      have A7 := Aside0.mk A70
      clear A70
      by_cases c8 : t112 = true
      · subst c8
        have H1 : ((code_Failure.f 11).bind fun t113 => (if t113 = true then ((code_Broadcast.f 0).bind fun t114 => (if t114 = true then ((code_Bits.f 20).bind fun t115 => (if t115 = true then ((code_Same.f 3 0 0 0 0 0 0 0 0 0 0 0 ([] : List Int) ([] : List Bool) (([] : List Int)) ([] : List (S43)) 0 0 0 0 0 ([] : List (S45)) 3 0 0 0 0 0 0 0 0 0 0 0 ([] : List Int) ([] : List Bool) ([] : List Int) ([] : List (S43)) 0 0 0 0 0 ([] : List (S45))).bind fun t119 => (some t119)) else (some false))) else (some false))) else (some false))) = some r := by rw [if_pos rfl] at H; exact H
        clear H
        have H := H1
        clear H1
        replace H := Option.bind_eq_some_iff.mp H
        obtain ⟨t113, A90, H⟩ := H
        replace H : (if t113 = true then ((code_Broadcast.f 0).bind fun t114 => (if t114 = true then ((code_Bits.f 20).bind fun t115 => (if t115 = true then ((code_Same.f 3 0 0 0 0 0 0 0 0 0 0 0 ([] : List Int) ([] : List Bool) (([] : List Int)) ([] : List (S43)) 0 0 0 0 0 ([] : List (S45)) 3 0 0 0 0 0 0 0 0 0 0 0 ([] : List Int) ([] : List Bool) ([] : List Int) ([] : List (S43)) 0 0 0 0 0 ([] : List (S45))).bind fun t119 => (some t119)) else (some false))) else (some false))) else (some false)) = some r := H
        have A9 := Aside0.mk A90
        clear A90
        by_cases c10 : t113 = true
        · subst c10
          have H1 : ((code_Broadcast.f 0).bind fun t114 => (if t114 = true then ((code_Bits.f 20).bind fun t115 => (if t115 = true then ((code_Same.f 3 0 0 0 0 0 0 0 0 0 0 0 ([] : List Int) ([] : List Bool) (([] : List Int)) ([] : List (S43)) 0 0 0 0 0 ([] : List (S45)) 3 0 0 0 0 0 0 0 0 0 0 0 ([] : List Int) ([] : List Bool) ([] : List Int) ([] : List (S43)) 0 0 0 0 0 ([] : List (S45))).bind fun t119 => (some t119)) else (some false))) else (some false))) = some r := by rw [if_pos rfl] at H; exact H
          clear H
          have H := H1
          clear H1
          replace H := Option.bind_eq_some_iff.mp H
          obtain ⟨t114, A110, H⟩ := H
          replace H : (if t114 = true then ((code_Bits.f 20).bind fun t115 => (if t115 = true then ((code_Same.f 3 0 0 0 0 0 0 0 0 0 0 0 ([] : List Int) ([] : List Bool) (([] : List Int)) ([] : List (S43)) 0 0 0 0 0 ([] : List (S45)) 3 0 0 0 0 0 0 0 0 0 0 0 ([] : List Int) ([] : List Bool) ([] : List Int) ([] : List (S43)) 0 0 0 0 0 ([] : List (S45))).bind fun t119 => (some t119)) else (some false))) else (some false)) = some r := H
          have A11 := Aside0.mk A110
          clear A110
          by_cases c12 : t114 = true
          · subst c12
            have H1 : ((code_Bits.f 20).bind fun t115 => (if t115 = true then ((code_Same.f 3 0 0 0 0 0 0 0 0 0 0 0 ([] : List Int) ([] : List Bool) (([] : List Int)) ([] : List (S43)) 0 0 0 0 0 ([] : List (S45)) 3 0 0 0 0 0 0 0 0 0 0 0 ([] : List Int) ([] : List Bool) ([] : List Int) ([] : List (S43)) 0 0 0 0 0 ([] : List (S45))).bind fun t119 => (some t119)) else (some false))) = some r := by rw [if_pos rfl] at H; exact H
            clear H
            have H := H1
            clear H1
            replace H := Option.bind_eq_some_iff.mp H
            obtain ⟨t115, A130, H⟩ := H
            replace H : (if t115 = true then ((code_Same.f 3 0 0 0 0 0 0 0 0 0 0 0 ([] : List Int) ([] : List Bool) (([] : List Int)) ([] : List (S43)) 0 0 0 0 0 ([] : List (S45)) 3 0 0 0 0 0 0 0 0 0 0 0 ([] : List Int) ([] : List Bool) ([] : List Int) ([] : List (S43)) 0 0 0 0 0 ([] : List (S45))).bind fun t119 => (some t119)) else (some false)) = some r := H
            have A13 := Aside0.mk A130
            clear A130
            by_cases c14 : t115 = true
            · subst c14
              have H1 : ((code_Same.f 3 0 0 0 0 0 0 0 0 0 0 0 ([] : List Int) ([] : List Bool) (([] : List Int)) ([] : List (S43)) 0 0 0 0 0 ([] : List (S45)) 3 0 0 0 0 0 0 0 0 0 0 0 ([] : List Int) ([] : List Bool) ([] : List Int) ([] : List (S43)) 0 0 0 0 0 ([] : List (S45))).bind fun t119 => (some t119)) = some r := by rw [if_pos rfl] at H; exact H
              clear H
              have H := H1
              clear H1
              obtain ⟨y116, hy116⟩ : ∃ y_ : List Int, y_ = (([] : List Int)) := ⟨_, rfl⟩
              replace H : ((code_Same.f 3 0 0 0 0 0 0 0 0 0 0 0 ([] : List Int) ([] : List Bool) y116 ([] : List (S43)) 0 0 0 0 0 ([] : List (S45)) 3 0 0 0 0 0 0 0 0 0 0 0 ([] : List Int) ([] : List Bool) ([] : List Int) ([] : List (S43)) 0 0 0 0 0 ([] : List (S45))).bind fun t119 => (some t119)) = some r := by first | (rw [hy116]; with_reducible exact H) | (have H2_ := (Option.bind_some _ _).symm.trans H; rw [hy116]; with_reducible exact H2_) | (have H2_ := (Option.bind_some _ _).symm.trans H; with_reducible exact H2_) | with_reducible exact H | (rw [hy116]; exact H) | exact H
              have Ny116 := Aside0.mk hy116
              clear hy116
              replace H := Option.bind_eq_some_iff.mp H
              obtain ⟨t119, A150, H⟩ := H
              replace H : (some t119) = some r := H
              have A15 := Aside0.mk A150
              clear A150
              obtain rfl := Option.some.inj H
              go_enter Try.func7, Try.ntmps7
              go_wp2_with (first | ((with_reducible refine gate_callee (f := 8) rfl ?_); refine goesL_ (some 1) rfl rfl Try.func8 (by kernel_rfl) rfl #[.int .u8 43] rfl (by (try simp only [List.map_toArray, List.map_cons, List.map_nil]); first | done | rfl | (simp only [List.length_drop, List.length_take]; rfl)) ?_; (with_reducible refine (code_Public.calls 43 true _ A1.out).mono ?_); rintro e w16 ⟨rfl, hb⟩; refine ⟨_, rfl, ?_⟩; have n0_ := Aside0.mk (below_step (by repeat (first | (with_reducible first | exact HB.out | apply below_alloc | apply pw_below_drewN | apply below_drew1) | exact HB.out)) hb); clear HB; have HB := n0_; clear n0_; (try clear hb); (try clear hb2); (try clear hk); (try clear hi)) | (go_at_call 8; (with_reducible refine (code_Public.calls 44 false _ A3.out).mono ?_); rintro e w17 ⟨rfl, hb⟩; have n0_ := Aside0.mk (below_step (by repeat (first | (with_reducible first | exact HB.out | apply below_alloc | apply pw_below_drewN | apply below_drew1) | exact HB.out)) hb); clear HB; have HB := n0_; clear n0_; (try clear hb); (try clear hb2); (try clear hk); (try clear hi)) | (go_at_call 12; (with_reducible refine (code_Answers.calls 3 131 true _ A7.out).mono ?_); rintro e w' ⟨rfl, ⟨nd, rfl⟩⟩) | (go_at_call 10; (with_reducible refine (code_Failure.calls 11 true _ A9.out).mono ?_); rintro e w18 ⟨rfl, hb⟩; have n0_ := Aside0.mk (below_step (by repeat (first | (with_reducible first | exact HB.out | apply below_alloc | apply pw_below_drewN | apply below_drew1) | exact HB.out)) hb); clear HB; have HB := n0_; clear n0_; (try clear hb); (try clear hb2); (try clear hk); (try clear hi)) | (go_at_call 14; (with_reducible refine (code_Broadcast.calls 0 true _ A11.out).mono ?_); rintro e w' ⟨rfl, ⟨nd, rfl⟩⟩) | (go_at_call 15; (with_reducible refine (code_Bits.calls 20 true _ A13.out).mono ?_); rintro e w19 ⟨rfl, hb⟩; have n0_ := Aside0.mk (below_step (by repeat (first | (with_reducible first | exact HB.out | apply below_alloc | apply pw_below_drewN | apply below_drew1) | exact HB.out)) hb); clear HB; have HB := n0_; clear n0_; (try clear hb); (try clear hb2); (try clear hk); (try clear hi)) | ((with_reducible refine gate_dst (N := 19) rfl ?_); (try (refine gate_guard (by rfl) ?_; dsimp only)); refine Kd.R_lit (Kd.int .u8) _ 5 ?hg (N := 19) ?hd (xs := ([] : List Int)) (inner := []) (ok := fun _ => True) (okp := fun _ => True) ?hr ?hp (fun _ hk => hk) trivial (Below.refl _ _) (Nat.le_refl _) (by simp) ?_; (case hd => rfl); (case hg => rfl); (case hr => first | (go_simp; done) | (go_simp; rfl)); (case hp => exact (Reps.none _ _)); intro v117 w20 ho21 hb hg_ hnew_; clear hg_ hnew_; (first | rw [← Ny116.out] at ho21 | (simp only [Int.reduceToNat] at ho21; rw [← Ny116.out] at ho21)); have n0_ := Aside0.mk (Kd.R_lower ho21 (below_size (by repeat (first | (with_reducible first | exact HB.out | apply below_alloc | apply pw_below_drewN | apply below_drew1) | exact HB.out)))); have n1_ := Aside0.mk (below_step (by repeat (first | (with_reducible first | exact HB.out | apply below_alloc | apply pw_below_drewN | apply below_drew1) | exact HB.out)) hb); clear HB; have HO118 := n0_; have HB := n1_; clear n0_ n1_; clear hb ho21; obtain ⟨Ao22, co22, eo22⟩ := Kd.R_slice HO118.out; subst eo22) | (go_at_call 18; (refine (code_Same.calls 3 0 0 0 0 0 0 0 0 0 0 0 _ _ ([] : List Int) _ _ ([] : List Bool) _ _ y116 _ _ ([] : List (S43)) 0 0 0 0 0 _ _ ([] : List (S45)) 3 0 0 0 0 0 0 0 0 0 0 0 _ _ ([] : List Int) _ _ ([] : List Bool) _ _ ([] : List Int) _ _ ([] : List (S43)) 0 0 0 0 0 _ _ ([] : List (S45)) t119 _ ?side1 ?side2 ?side3 ?side4 ?side5 ?side6 ?side7 ?side8 ?side9 ?side10 ?side11 ?side12 ?side13 ?side14 ?side15 ?side16 ?side17 ?side18 ?side19 ?side20 A15.out).mono ?_); (case side1 => exact Kd.C_nil _ _); (case side2 => exact Nat.le_refl _); (case side3 => exact Kd.C_nil _ _); (case side4 => exact Nat.le_refl _); (case side5 => repeat (first | exact (Kd.R_reads' HO118.out).2.2 | (with_reducible refine Kd.C_alloc ?_ _) | (with_reducible refine Kd.C_drewN ?_ _) | (with_reducible refine Kd.C_drew ?_))); (case side6 => exact (Kd.R_reads' HO118.out).2.1); (case side7 => exact Kd.C_nil _ _); (case side8 => exact Nat.le_refl _); (case side9 => exact Kd.C_nil _ _); (case side10 => exact Nat.le_refl _); (case side11 => exact Kd.C_nil _ _); (case side12 => exact Nat.le_refl _); (case side13 => exact Kd.C_nil _ _); (case side14 => exact Nat.le_refl _); (case side15 => exact Kd.C_nil _ _); (case side16 => exact Nat.le_refl _); (case side17 => exact Kd.C_nil _ _); (case side18 => exact Nat.le_refl _); (case side19 => exact Kd.C_nil _ _); (case side20 => exact Nat.le_refl _); rintro e w23 ⟨rfl, hb⟩; have n0_ := Aside0.mk (Kd.R_below (by (with_reducible repeat (first | apply Kd.R_alloc | apply Kd.R_drewN | apply Kd.R_drew)); exact HO118.out) hb); have n1_ := Aside0.mk (below_step (by repeat (first | (with_reducible first | exact HB.out | apply below_alloc | apply pw_below_drewN | apply below_drew1) | exact HB.out)) hb); clear HO118; clear HB; have HO118 := n0_; have HB := n1_; clear n0_ n1_; (try clear hb); (try clear hb2); (try clear hk); (try clear hi)))
              go_ret
              exact ⟨by first | rfl | (simp [errW_none, errW_some] <;> rfl) | (simp [*, errW_none, errW_some] <;> rfl), by repeat (first | (with_reducible first | exact HB.out | apply below_alloc | apply pw_below_drewN | apply below_drew1) | exact HB.out)⟩
            · replace c14 := Bool.eq_false_iff.mpr c14
              subst c14
              have H1 : (some false) = some r := by rw [if_neg (show ¬ (false = true) by decide)] at H; exact H
              clear H
              have H := H1
              clear H1
              obtain rfl := Option.some.inj H
              go_enter Try.func7, Try.ntmps7
              go_wp2_with (first | ((with_reducible refine gate_callee (f := 8) rfl ?_); refine goesL_ (some 1) rfl rfl Try.func8 (by kernel_rfl) rfl #[.int .u8 43] rfl (by (try simp only [List.map_toArray, List.map_cons, List.map_nil]); first | done | rfl | (simp only [List.length_drop, List.length_take]; rfl)) ?_; (with_reducible refine (code_Public.calls 43 true _ A1.out).mono ?_); rintro e w24 ⟨rfl, hb⟩; refine ⟨_, rfl, ?_⟩; have n0_ := Aside0.mk (below_step (by repeat (first | (with_reducible first | exact HB.out | apply below_alloc | apply pw_below_drewN | apply below_drew1) | exact HB.out)) hb); clear HB; have HB := n0_; clear n0_; (try clear hb); (try clear hb2); (try clear hk); (try clear hi)) | (go_at_call 8; (with_reducible refine (code_Public.calls 44 false _ A3.out).mono ?_); rintro e w25 ⟨rfl, hb⟩; have n0_ := Aside0.mk (below_step (by repeat (first | (with_reducible first | exact HB.out | apply below_alloc | apply pw_below_drewN | apply below_drew1) | exact HB.out)) hb); clear HB; have HB := n0_; clear n0_; (try clear hb); (try clear hb2); (try clear hk); (try clear hi)) | (go_at_call 12; (with_reducible refine (code_Answers.calls 3 131 true _ A7.out).mono ?_); rintro e w' ⟨rfl, ⟨nd, rfl⟩⟩) | (go_at_call 10; (with_reducible refine (code_Failure.calls 11 true _ A9.out).mono ?_); rintro e w26 ⟨rfl, hb⟩; have n0_ := Aside0.mk (below_step (by repeat (first | (with_reducible first | exact HB.out | apply below_alloc | apply pw_below_drewN | apply below_drew1) | exact HB.out)) hb); clear HB; have HB := n0_; clear n0_; (try clear hb); (try clear hb2); (try clear hk); (try clear hi)) | (go_at_call 14; (with_reducible refine (code_Broadcast.calls 0 true _ A11.out).mono ?_); rintro e w' ⟨rfl, ⟨nd, rfl⟩⟩) | (go_at_call 15; (with_reducible refine (code_Bits.calls 20 false _ A13.out).mono ?_); rintro e w27 ⟨rfl, hb⟩; have n0_ := Aside0.mk (below_step (by repeat (first | (with_reducible first | exact HB.out | apply below_alloc | apply pw_below_drewN | apply below_drew1) | exact HB.out)) hb); clear HB; have HB := n0_; clear n0_; (try clear hb); (try clear hb2); (try clear hk); (try clear hi)))
              go_ret
              exact ⟨by first | rfl | (simp [errW_none, errW_some] <;> rfl) | (simp [*, errW_none, errW_some] <;> rfl), by repeat (first | (with_reducible first | exact HB.out | apply below_alloc | apply pw_below_drewN | apply below_drew1) | exact HB.out)⟩
          · replace c12 := Bool.eq_false_iff.mpr c12
            subst c12
            have H1 : (some false) = some r := by rw [if_neg (show ¬ (false = true) by decide)] at H; exact H
            clear H
            have H := H1
            clear H1
            obtain rfl := Option.some.inj H
            go_enter Try.func7, Try.ntmps7
            go_wp2_with (first | ((with_reducible refine gate_callee (f := 8) rfl ?_); refine goesL_ (some 1) rfl rfl Try.func8 (by kernel_rfl) rfl #[.int .u8 43] rfl (by (try simp only [List.map_toArray, List.map_cons, List.map_nil]); first | done | rfl | (simp only [List.length_drop, List.length_take]; rfl)) ?_; (with_reducible refine (code_Public.calls 43 true _ A1.out).mono ?_); rintro e w28 ⟨rfl, hb⟩; refine ⟨_, rfl, ?_⟩; have n0_ := Aside0.mk (below_step (by repeat (first | (with_reducible first | exact HB.out | apply below_alloc | apply pw_below_drewN | apply below_drew1) | exact HB.out)) hb); clear HB; have HB := n0_; clear n0_; (try clear hb); (try clear hb2); (try clear hk); (try clear hi)) | (go_at_call 8; (with_reducible refine (code_Public.calls 44 false _ A3.out).mono ?_); rintro e w29 ⟨rfl, hb⟩; have n0_ := Aside0.mk (below_step (by repeat (first | (with_reducible first | exact HB.out | apply below_alloc | apply pw_below_drewN | apply below_drew1) | exact HB.out)) hb); clear HB; have HB := n0_; clear n0_; (try clear hb); (try clear hb2); (try clear hk); (try clear hi)) | (go_at_call 12; (with_reducible refine (code_Answers.calls 3 131 true _ A7.out).mono ?_); rintro e w' ⟨rfl, ⟨nd, rfl⟩⟩) | (go_at_call 10; (with_reducible refine (code_Failure.calls 11 true _ A9.out).mono ?_); rintro e w30 ⟨rfl, hb⟩; have n0_ := Aside0.mk (below_step (by repeat (first | (with_reducible first | exact HB.out | apply below_alloc | apply pw_below_drewN | apply below_drew1) | exact HB.out)) hb); clear HB; have HB := n0_; clear n0_; (try clear hb); (try clear hb2); (try clear hk); (try clear hi)) | (go_at_call 14; (with_reducible refine (code_Broadcast.calls 0 false _ A11.out).mono ?_); rintro e w' ⟨rfl, ⟨nd, rfl⟩⟩))
            go_ret
            exact ⟨by first | rfl | (simp [errW_none, errW_some] <;> rfl) | (simp [*, errW_none, errW_some] <;> rfl), by repeat (first | (with_reducible first | exact HB.out | apply below_alloc | apply pw_below_drewN | apply below_drew1) | exact HB.out)⟩
        · replace c10 := Bool.eq_false_iff.mpr c10
          subst c10
          have H1 : (some false) = some r := by rw [if_neg (show ¬ (false = true) by decide)] at H; exact H
          clear H
          have H := H1
          clear H1
          obtain rfl := Option.some.inj H
          go_enter Try.func7, Try.ntmps7
          go_wp2_with (first | ((with_reducible refine gate_callee (f := 8) rfl ?_); refine goesL_ (some 1) rfl rfl Try.func8 (by kernel_rfl) rfl #[.int .u8 43] rfl (by (try simp only [List.map_toArray, List.map_cons, List.map_nil]); first | done | rfl | (simp only [List.length_drop, List.length_take]; rfl)) ?_; (with_reducible refine (code_Public.calls 43 true _ A1.out).mono ?_); rintro e w31 ⟨rfl, hb⟩; refine ⟨_, rfl, ?_⟩; have n0_ := Aside0.mk (below_step (by repeat (first | (with_reducible first | exact HB.out | apply below_alloc | apply pw_below_drewN | apply below_drew1) | exact HB.out)) hb); clear HB; have HB := n0_; clear n0_; (try clear hb); (try clear hb2); (try clear hk); (try clear hi)) | (go_at_call 8; (with_reducible refine (code_Public.calls 44 false _ A3.out).mono ?_); rintro e w32 ⟨rfl, hb⟩; have n0_ := Aside0.mk (below_step (by repeat (first | (with_reducible first | exact HB.out | apply below_alloc | apply pw_below_drewN | apply below_drew1) | exact HB.out)) hb); clear HB; have HB := n0_; clear n0_; (try clear hb); (try clear hb2); (try clear hk); (try clear hi)) | (go_at_call 12; (with_reducible refine (code_Answers.calls 3 131 true _ A7.out).mono ?_); rintro e w' ⟨rfl, ⟨nd, rfl⟩⟩) | (go_at_call 10; (with_reducible refine (code_Failure.calls 11 false _ A9.out).mono ?_); rintro e w33 ⟨rfl, hb⟩; have n0_ := Aside0.mk (below_step (by repeat (first | (with_reducible first | exact HB.out | apply below_alloc | apply pw_below_drewN | apply below_drew1) | exact HB.out)) hb); clear HB; have HB := n0_; clear n0_; (try clear hb); (try clear hb2); (try clear hk); (try clear hi)))
          go_ret
          exact ⟨by first | rfl | (simp [errW_none, errW_some] <;> rfl) | (simp [*, errW_none, errW_some] <;> rfl), by repeat (first | (with_reducible first | exact HB.out | apply below_alloc | apply pw_below_drewN | apply below_drew1) | exact HB.out)⟩
      · replace c8 := Bool.eq_false_iff.mpr c8
        subst c8
        have H1 : (some false) = some r := by rw [if_neg (show ¬ (false = true) by decide)] at H; exact H
        clear H
        have H := H1
        clear H1
        obtain rfl := Option.some.inj H
        go_enter Try.func7, Try.ntmps7
        go_wp2_with (first | ((with_reducible refine gate_callee (f := 8) rfl ?_); refine goesL_ (some 1) rfl rfl Try.func8 (by kernel_rfl) rfl #[.int .u8 43] rfl (by (try simp only [List.map_toArray, List.map_cons, List.map_nil]); first | done | rfl | (simp only [List.length_drop, List.length_take]; rfl)) ?_; (with_reducible refine (code_Public.calls 43 true _ A1.out).mono ?_); rintro e w34 ⟨rfl, hb⟩; refine ⟨_, rfl, ?_⟩; have n0_ := Aside0.mk (below_step (by repeat (first | (with_reducible first | exact HB.out | apply below_alloc | apply pw_below_drewN | apply below_drew1) | exact HB.out)) hb); clear HB; have HB := n0_; clear n0_; (try clear hb); (try clear hb2); (try clear hk); (try clear hi)) | (go_at_call 8; (with_reducible refine (code_Public.calls 44 false _ A3.out).mono ?_); rintro e w35 ⟨rfl, hb⟩; have n0_ := Aside0.mk (below_step (by repeat (first | (with_reducible first | exact HB.out | apply below_alloc | apply pw_below_drewN | apply below_drew1) | exact HB.out)) hb); clear HB; have HB := n0_; clear n0_; (try clear hb); (try clear hb2); (try clear hk); (try clear hi)) | (go_at_call 12; (with_reducible refine (code_Answers.calls 3 131 false _ A7.out).mono ?_); rintro e w' ⟨rfl, ⟨nd, rfl⟩⟩))
        go_ret
        exact ⟨by first | rfl | (simp [errW_none, errW_some] <;> rfl) | (simp [*, errW_none, errW_some] <;> rfl), by repeat (first | (with_reducible first | exact HB.out | apply below_alloc | apply pw_below_drewN | apply below_drew1) | exact HB.out)⟩
  · replace c2 := Bool.eq_false_iff.mpr c2
    subst c2
    have H1 : (some false) = some r := by rw [if_neg (show ¬ (false = true) by decide)] at H; exact H
    clear H
    have H := H1
    clear H1
    obtain rfl := Option.some.inj H
    go_enter Try.func7, Try.ntmps7
    go_wp2_with (first | ((with_reducible refine gate_callee (f := 8) rfl ?_); refine goesL_ (some 1) rfl rfl Try.func8 (by kernel_rfl) rfl #[.int .u8 43] rfl (by (try simp only [List.map_toArray, List.map_cons, List.map_nil]); first | done | rfl | (simp only [List.length_drop, List.length_take]; rfl)) ?_; (with_reducible refine (code_Public.calls 43 false _ A1.out).mono ?_); rintro e w36 ⟨rfl, hb⟩; refine ⟨_, rfl, ?_⟩; have n0_ := Aside0.mk (below_step (by repeat (first | (with_reducible first | exact HB.out | apply below_alloc | apply pw_below_drewN | apply below_drew1) | exact HB.out)) hb); clear HB; have HB := n0_; clear n0_; (try clear hb); (try clear hb2); (try clear hk); (try clear hi)))
    go_ret
    exact ⟨by first | rfl | (simp [errW_none, errW_some] <;> rfl) | (simp [*, errW_none, errW_some] <;> rfl), by repeat (first | (with_reducible first | exact HB.out | apply below_alloc | apply pw_below_drewN | apply below_drew1) | exact HB.out)⟩

end Go.Proofs.Ytoompkobcohehaa.P
