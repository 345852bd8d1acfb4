/- What the laws of this chapter rest on, part 2: what the functions that they reach answer, each shown once. Conditions: what each theorem states. (Merged by a program of this session, wip/tools/merge.py, out of its own texts and of the words that the kit's print wrote for this seat, cut to those that are used.) -/
import Derived.ChangeKeysEq
import Derived.Test.YtalaochocmcbcaaVA
set_option linter.unusedVariables false
set_option linter.unusedSimpArgs false
set_option maxHeartbeats 16000000
set_option maxRecDepth 100000
section
namespace Go.Proofs.Ytalaochocmcbcaa.P
open Go.RowKit Go.Proofs.YtalaochocmcbcaaW.PrintWords Go.Proofs.YtalaochocmcbcaaW.PrintLast Go.Proofs.YtalaochocmcbcaaW.PrintMore
attribute [local go_sem] max2_int min2_int max_two min_two max_three min_three max_four min_four   -- for this text's walks alone
def slices_Equal_uint16_uint16.l0 : Nat → List Int → List Int → Int → Int → Option (Bool)
  | 0, _, _, _, _ => none
  | k + 1, x0, x1, x12, x13 => if x13 < x12 then (if 0 ≤ x13 then (if x13 < (x0.length : Int) then (if x13 < (x1.length : Int) then (if (rd x0 x13) = (rd x1 x13) then (slices_Equal_uint16_uint16.l0 k x0 x1 x12 (wrap64 (x13 + 1))) else (some false)) else (none)) else (none)) else (none)) else (some true)
def slices_Equal_uint16_uint16.f (k : Nat) (l0 : List Int) (l1 : List Int) : Option (Bool) := if (l0.length : Int) = (l1.length : Int) then (slices_Equal_uint16_uint16.l0 k l0 l1 (l0.length : Int) 0) else (some false)
theorem slices_Equal_uint16_uint16.mono_l : ∀ k, (∀ y0 y1 y2 y3, LeO (slices_Equal_uint16_uint16.l0 k y0 y1 y2 y3) (slices_Equal_uint16_uint16.l0 (k + 1) y0 y1 y2 y3))
  | 0 => fun _ _ _ _ r h => by simp [slices_Equal_uint16_uint16.l0] at h
  | k + 1 => by
    have ih0 := slices_Equal_uint16_uint16.mono_l k
    · intro y0 y1 y2 y3
      unfold slices_Equal_uint16_uint16.l0
      repeat' first
      | (with_reducible exact ih0 _ _ _ _)
      | (with_reducible exact LeO.refl _)
      | (with_reducible exact LeO.none _)
      | (with_reducible refine LeO.ite ?_ ?_)
      | (with_reducible refine LeO.bind ?_ (fun _ => ?_))
      | exact ih0 _ _ _ _
      | exact LeO.none _
      | refine LeO.ite ?_ ?_
      | refine LeO.bind ?_ (fun _ => ?_)
theorem slices_Equal_uint16_uint16.mono : ∀ a0 a1 k, LeO (slices_Equal_uint16_uint16.f k a0 a1) (slices_Equal_uint16_uint16.f (k + 1) a0 a1) := by
  intro a0 a1 k
  have ih0 := slices_Equal_uint16_uint16.mono_l k
  unfold slices_Equal_uint16_uint16.f
  repeat' first
      | (with_reducible exact ih0 _ _ _ _)
      | (with_reducible exact LeO.refl _)
      | (with_reducible exact LeO.none _)
      | (with_reducible refine LeO.ite ?_ ?_)
      | (with_reducible refine LeO.bind ?_ (fun _ => ?_))
      | exact ih0 _ _ _ _
      | exact LeO.none _
      | refine LeO.ite ?_ ?_
      | refine LeO.bind ?_ (fun _ => ?_)
theorem slices_Equal_uint16_uint16.calls (k : Nat) (A0 : Option Addr) (c0 : Nat) (l0 : List Int) (A1 : Option Addr) (c1 : Nat) (l1 : List Int) (r : Bool) (w : World) (hr0 : Kd.C (Kd.int .u16) w A0 l0.length l0) (hc0 : l0.length ≤ c0) (hr1 : Kd.C (Kd.int .u16) w A1 l1.length l1) (hc1 : l1.length ≤ c1) (h : slices_Equal_uint16_uint16.f k l0 l1 = some r) :
    Calls Try.prog 51 #[.slice A0 l0.length c0, .slice A1 l1.length c1] w fun e w' => e = .returned (.bool r) ∧ Drawn0 w w' := by
  have HR0 := Aside0.mk hr0
  have HC0 := Aside0.mk hc0
  clear hr0 hc0
  have HR1 := Aside0.mk hr1
  have HC1 := Aside0.mk hc1
  clear hr1 hc1
  have H : (if (l0.length : Int) = (l1.length : Int) then (slices_Equal_uint16_uint16.l0 k l0 l1 (l0.length : Int) 0) else (some false)) = some r := h
  clear h
  by_cases c3 : (l0.length : Int) = (l1.length : Int)
  · rw [if_pos c3] at H
    have c3b0 : ((l0.length : Int) == (l1.length : Int)) = true := beq_iff_eq.mpr c3
    have c3b1 : ((l0.length : Int) != (l1.length : Int)) = false := bne_eq_false_iff_eq.mpr c3
    have c3b2 : (l0.length == l1.length) = true := by first | simpa using c3 | (simp at c3 ⊢; omega)
    clear c3
    have H' := Aside0.mk H
    clear H
    go_enter Try.func51, Try.ntmps51
    go_wp2
    repeat (go_quiet (fail); try go_wp2)
    go_loopg [13] k (fun kq v13 w' => ∃ (x13_1 : Int), v13 = .int .i64 x13_1 ∧ Aside0 (slices_Equal_uint16_uint16.l0 kq l0 l1 (l0.length : Int) x13_1 = some r) ∧ Aside0 (kq ≤ k) ∧ Drawn0 w w')
    case atStart => exact ⟨(0), (by first | rfl | (simp; done) | (simp [*]; done)), H', ⟨Nat.le_refl _⟩, by repeat (first | exact Drawn0.refl _ | apply Drawn0.step)⟩
    case round =>
      clear H'
      try clear c1
      try clear p2
      try clear c3
      try clear c3b0
      try clear c3b1
      try clear c3b2
      obtain ⟨x13_1, rfl, HA, HK1, ⟨m1, rfl⟩⟩ := hrel
      cases gk with
      | zero => exact absurd HA.out (by simp [slices_Equal_uint16_uint16.l0])
      | succ k1 =>
        have H := HA.out
        clear HA
        simp only [slices_Equal_uint16_uint16.l0] at H
        by_cases c4 : x13_1 < (l0.length : Int)
        · rw [if_pos c4] at H
          have c4b0 : decide (x13_1 < (l0.length : Int)) = true := decide_eq_true c4
          clear c4
          by_cases c5 : 0 ≤ x13_1
          · rw [if_pos c5] at H
            have c5b0 : decide (0 ≤ x13_1) = true := decide_eq_true c5
            clear c5
            by_cases c6 : x13_1 < (l0.length : Int)
            · rw [if_pos c6] at H
              have c6b0 : decide (x13_1 < (l0.length : Int)) = true := decide_eq_true c6
              clear c6
              by_cases c7 : x13_1 < (l1.length : Int)
              · rw [if_pos c7] at H
                have c7b0 : decide (x13_1 < (l1.length : Int)) = true := decide_eq_true c7
                clear c7
                by_cases c8 : (rd l0 x13_1) = (rd l1 x13_1)
                · rw [if_pos c8] at H
                  have c8b0 : ((rd l0 x13_1) == (rd l1 x13_1)) = true := beq_iff_eq.mpr c8
                  have c8b1 : ((rd l0 x13_1) != (rd l1 x13_1)) = false := bne_eq_false_iff_eq.mpr c8
                  clear c8
                  have H' := Aside0.mk H
                  clear H
                  have p160 : 0 ≤ (x13_1 : Int) := of_decide_eq_true (by first | (with_reducible assumption) | assumption)
                  have q160 : x13_1 < (l0.length : Int) := of_decide_eq_true (by first | (with_reducible assumption) | assumption)
                  obtain ⟨ad160, e160, hx160_0⟩ := Kd.at_int HR0.out x13_1 p160 q160
                  cases e160
                  replace p160 := eq_true p160
                  replace q160 := eq_true q160
                  have p161 : 0 ≤ (x13_1 : Int) := of_decide_eq_true (by first | (with_reducible assumption) | assumption)
                  have q161 : x13_1 < (l1.length : Int) := of_decide_eq_true (by first | (with_reducible assumption) | assumption)
                  obtain ⟨ad161, e161, hx161_0⟩ := Kd.at_int HR1.out x13_1 p161 q161
                  cases e161
                  replace p161 := eq_true p161
                  replace q161 := eq_true q161
                  go_wp2
                  repeat (go_quiet (fail); try go_wp2)
                  go_roundg k1
                  case measure => have := HK1.out; omega
                  case rel => exact ⟨(wrap64 (x13_1 + 1)), (by first | rfl | (simp; done) | (simp [*]; done)), H', ⟨by have := HK1.out; omega⟩, by repeat (first | exact Drawn0.refl _ | apply Drawn0.step)⟩
                · rw [if_neg c8] at H
                  have c8b0 : ((rd l0 x13_1) == (rd l1 x13_1)) = false := beq_eq_false_iff_ne.mpr c8
                  have c8b1 : ((rd l0 x13_1) != (rd l1 x13_1)) = true := bne_iff_ne.mpr c8
                  obtain rfl := Option.some.inj H
                  have p160 : 0 ≤ (x13_1 : Int) := of_decide_eq_true (by first | (with_reducible assumption) | assumption)
                  have q160 : x13_1 < (l0.length : Int) := of_decide_eq_true (by first | (with_reducible assumption) | assumption)
                  obtain ⟨ad160, e160, hx160_0⟩ := Kd.at_int HR0.out x13_1 p160 q160
                  cases e160
                  replace p160 := eq_true p160
                  replace q160 := eq_true q160
                  have p161 : 0 ≤ (x13_1 : Int) := of_decide_eq_true (by first | (with_reducible assumption) | assumption)
                  have q161 : x13_1 < (l1.length : Int) := of_decide_eq_true (by first | (with_reducible assumption) | assumption)
                  obtain ⟨ad161, e161, hx161_0⟩ := Kd.at_int HR1.out x13_1 p161 q161
                  cases e161
                  replace p161 := eq_true p161
                  replace q161 := eq_true q161
                  go_wp2
                  repeat (go_quiet (fail); try go_wp2)
                  go_ret
                  exact ⟨by first | rfl | (simp; done) | (simp [*]; done), by repeat (first | exact Drawn0.refl _ | apply Drawn0.step)⟩
              · rw [if_neg c7] at H
                exact absurd H (by simp)
            · rw [if_neg c6] at H
              exact absurd H (by simp)
          · rw [if_neg c5] at H
            exact absurd H (by simp)
        · rw [if_neg c4] at H
          have c4b0 : decide (x13_1 < (l0.length : Int)) = false := decide_eq_false c4
          clear c4
          obtain rfl := Option.some.inj H
          go_wp2
          repeat (go_quiet (fail); try go_wp2)
          go_ret
          exact ⟨by first | rfl | (simp; done) | (simp [*]; done), by repeat (first | exact Drawn0.refl _ | apply Drawn0.step)⟩
  · rw [if_neg c3] at H
    have c3b0 : ((l0.length : Int) == (l1.length : Int)) = false := beq_eq_false_iff_ne.mpr c3
    have c3b1 : ((l0.length : Int) != (l1.length : Int)) = true := bne_iff_ne.mpr c3
    have c3b2 : (l0.length == l1.length) = false := by first | simpa using c3 | (simp at c3 ⊢; omega)
    obtain rfl := Option.some.inj H
    go_enter Try.func51, Try.ntmps51
    go_wp2
    repeat (go_quiet (fail); try go_wp2)
    go_ret
    exact ⟨by first | rfl | (simp; done) | (simp [*]; done), by repeat (first | exact Drawn0.refl _ | apply Drawn0.step)⟩
end Go.Proofs.Ytalaochocmcbcaa.P
end
section
namespace Go.Proofs.Ytalaochocmcbcaa.P
open Go.RowKit Go.Proofs.YtalaochocmcbcaaW.PrintWords Go.Proofs.YtalaochocmcbcaaW.PrintLast Go.Proofs.YtalaochocmcbcaaW.PrintMore
attribute [local go_sem] max2_int min2_int max_two min_two max_three min_three max_four min_four   -- for this text's walks alone
def slices_Equal_bool_bool.l0 : Nat → List Bool → List Bool → Int → Int → Option (Bool)
  | 0, _, _, _, _ => none
  | k + 1, x0, x1, x12, x13 => if x13 < x12 then (if 0 ≤ x13 then (if x13 < (x0.length : Int) then (if x13 < (x1.length : Int) then (if ((rdOf false x0 x13) != (rdOf false x1 x13)) = true then (some false) else (slices_Equal_bool_bool.l0 k x0 x1 x12 (wrap64 (x13 + 1)))) else (none)) else (none)) else (none)) else (some true)
def slices_Equal_bool_bool.f (k : Nat) (l0 : List Bool) (l1 : List Bool) : Option (Bool) := if (l0.length : Int) = (l1.length : Int) then (slices_Equal_bool_bool.l0 k l0 l1 (l0.length : Int) 0) else (some false)
theorem slices_Equal_bool_bool.mono_l : ∀ k, (∀ y0 y1 y2 y3, LeO (slices_Equal_bool_bool.l0 k y0 y1 y2 y3) (slices_Equal_bool_bool.l0 (k + 1) y0 y1 y2 y3))
  | 0 => fun _ _ _ _ r h => by simp [slices_Equal_bool_bool.l0] at h
  | k + 1 => by
    have ih0 := slices_Equal_bool_bool.mono_l k
    · intro y0 y1 y2 y3
      unfold slices_Equal_bool_bool.l0
      repeat' first
      | (with_reducible exact ih0 _ _ _ _)
      | (with_reducible exact LeO.refl _)
      | (with_reducible exact LeO.none _)
      | (with_reducible refine LeO.ite ?_ ?_)
      | (with_reducible refine LeO.bind ?_ (fun _ => ?_))
      | exact ih0 _ _ _ _
      | exact LeO.none _
      | refine LeO.ite ?_ ?_
      | refine LeO.bind ?_ (fun _ => ?_)
theorem slices_Equal_bool_bool.mono : ∀ a0 a1 k, LeO (slices_Equal_bool_bool.f k a0 a1) (slices_Equal_bool_bool.f (k + 1) a0 a1) := by
  intro a0 a1 k
  have ih0 := slices_Equal_bool_bool.mono_l k
  unfold slices_Equal_bool_bool.f
  repeat' first
      | (with_reducible exact ih0 _ _ _ _)
      | (with_reducible exact LeO.refl _)
      | (with_reducible exact LeO.none _)
      | (with_reducible refine LeO.ite ?_ ?_)
      | (with_reducible refine LeO.bind ?_ (fun _ => ?_))
      | exact ih0 _ _ _ _
      | exact LeO.none _
      | refine LeO.ite ?_ ?_
      | refine LeO.bind ?_ (fun _ => ?_)
theorem slices_Equal_bool_bool.calls (k : Nat) (A0 : Option Addr) (c0 : Nat) (l0 : List Bool) (A1 : Option Addr) (c1 : Nat) (l1 : List Bool) (r : Bool) (w : World) (hr0 : Kd.C Kd.bool w A0 l0.length l0) (hc0 : l0.length ≤ c0) (hr1 : Kd.C Kd.bool w A1 l1.length l1) (hc1 : l1.length ≤ c1) (h : slices_Equal_bool_bool.f k l0 l1 = some r) :
    Calls Try.prog 52 #[.slice A0 l0.length c0, .slice A1 l1.length c1] w fun e w' => e = .returned (.bool r) ∧ Drawn0 w w' := by
  have HR0 := Aside0.mk hr0
  have HC0 := Aside0.mk hc0
  clear hr0 hc0
  have HR1 := Aside0.mk hr1
  have HC1 := Aside0.mk hc1
  clear hr1 hc1
  have H : (if (l0.length : Int) = (l1.length : Int) then (slices_Equal_bool_bool.l0 k l0 l1 (l0.length : Int) 0) else (some false)) = some r := h
  clear h
  by_cases c3 : (l0.length : Int) = (l1.length : Int)
  · rw [if_pos c3] at H
    have c3b0 : ((l0.length : Int) == (l1.length : Int)) = true := beq_iff_eq.mpr c3
    have c3b1 : ((l0.length : Int) != (l1.length : Int)) = false := bne_eq_false_iff_eq.mpr c3
    have c3b2 : (l0.length == l1.length) = true := by first | simpa using c3 | (simp at c3 ⊢; omega)
    clear c3
    have H' := Aside0.mk H
    clear H
    go_enter Try.func52, Try.ntmps52
    go_wp2
    repeat (go_quiet (fail); try go_wp2)
    go_loopg [13] k (fun kq v13 w' => ∃ (x13_1 : Int), v13 = .int .i64 x13_1 ∧ Aside0 (slices_Equal_bool_bool.l0 kq l0 l1 (l0.length : Int) x13_1 = some r) ∧ Aside0 (kq ≤ k) ∧ Drawn0 w w')
    case atStart => exact ⟨(0), (by first | rfl | (simp; done) | (simp [*]; done)), H', ⟨Nat.le_refl _⟩, by repeat (first | exact Drawn0.refl _ | apply Drawn0.step)⟩
    case round =>
      clear H'
      try clear c1
      try clear p2
      try clear c3
      try clear c3b0
      try clear c3b1
      try clear c3b2
      obtain ⟨x13_1, rfl, HA, HK1, ⟨m1, rfl⟩⟩ := hrel
      cases gk with
      | zero => exact absurd HA.out (by simp [slices_Equal_bool_bool.l0])
      | succ k1 =>
        have H := HA.out
        clear HA
        simp only [slices_Equal_bool_bool.l0] at H
        by_cases c4 : x13_1 < (l0.length : Int)
        · rw [if_pos c4] at H
          have c4b0 : decide (x13_1 < (l0.length : Int)) = true := decide_eq_true c4
          clear c4
          by_cases c5 : 0 ≤ x13_1
          · rw [if_pos c5] at H
            have c5b0 : decide (0 ≤ x13_1) = true := decide_eq_true c5
            clear c5
            by_cases c6 : x13_1 < (l0.length : Int)
            · rw [if_pos c6] at H
              have c6b0 : decide (x13_1 < (l0.length : Int)) = true := decide_eq_true c6
              clear c6
              by_cases c7 : x13_1 < (l1.length : Int)
              · rw [if_pos c7] at H
                have c7b0 : decide (x13_1 < (l1.length : Int)) = true := decide_eq_true c7
                clear c7
                by_cases c8 : ((rdOf false l0 x13_1) != (rdOf false l1 x13_1)) = true
                · rw [if_pos c8] at H
                  have c8b0 : ((rdOf false l0 x13_1) != (rdOf false l1 x13_1)) = true := c8
                  (try (have c8b1 : decide ((rdOf false l0 x13_1) = (rdOf false l1 x13_1)) = false := by simpa using c8))
                  (try (have c8b2 : ((rdOf false l0 x13_1) == (rdOf false l1 x13_1)) = false := by simpa using c8))
                  (try (have c8b3 : ¬ ((rdOf false l0 x13_1) = (rdOf false l1 x13_1)) := by simpa using c8))
                  clear c8
                  obtain rfl := Option.some.inj H
                  have p162 : 0 ≤ (x13_1 : Int) := of_decide_eq_true (by first | (with_reducible assumption) | assumption)
                  have q162 : x13_1 < (l0.length : Int) := of_decide_eq_true (by first | (with_reducible assumption) | assumption)
                  obtain ⟨ad162, e162, hx162_0⟩ := Kd.at_bool HR0.out x13_1 p162 q162
                  cases e162
                  replace p162 := eq_true p162
                  replace q162 := eq_true q162
                  have p163 : 0 ≤ (x13_1 : Int) := of_decide_eq_true (by first | (with_reducible assumption) | assumption)
                  have q163 : x13_1 < (l1.length : Int) := of_decide_eq_true (by first | (with_reducible assumption) | assumption)
                  obtain ⟨ad163, e163, hx163_0⟩ := Kd.at_bool HR1.out x13_1 p163 q163
                  cases e163
                  replace p163 := eq_true p163
                  replace q163 := eq_true q163
                  go_wp2
                  repeat (go_quiet (fail); try go_wp2)
                  go_ret
                  exact ⟨by first | rfl | (simp; done) | (simp [*]; done), by repeat (first | exact Drawn0.refl _ | apply Drawn0.step)⟩
                · rw [if_neg c8] at H
                  have c8b0 : ((rdOf false l0 x13_1) != (rdOf false l1 x13_1)) = false := by simpa using c8
                  (try (have c8b1 : decide ((rdOf false l0 x13_1) = (rdOf false l1 x13_1)) = true := by simpa using c8))
                  (try (have c8b2 : ((rdOf false l0 x13_1) == (rdOf false l1 x13_1)) = true := by simpa using c8))
                  clear c8
                  have H' := Aside0.mk H
                  clear H
                  have p162 : 0 ≤ (x13_1 : Int) := of_decide_eq_true (by first | (with_reducible assumption) | assumption)
                  have q162 : x13_1 < (l0.length : Int) := of_decide_eq_true (by first | (with_reducible assumption) | assumption)
                  obtain ⟨ad162, e162, hx162_0⟩ := Kd.at_bool HR0.out x13_1 p162 q162
                  cases e162
                  replace p162 := eq_true p162
                  replace q162 := eq_true q162
                  have p163 : 0 ≤ (x13_1 : Int) := of_decide_eq_true (by first | (with_reducible assumption) | assumption)
                  have q163 : x13_1 < (l1.length : Int) := of_decide_eq_true (by first | (with_reducible assumption) | assumption)
                  obtain ⟨ad163, e163, hx163_0⟩ := Kd.at_bool HR1.out x13_1 p163 q163
                  cases e163
                  replace p163 := eq_true p163
                  replace q163 := eq_true q163
                  go_wp2
                  repeat (go_quiet (fail); try go_wp2)
                  go_roundg k1
                  case measure => have := HK1.out; omega
                  case rel => exact ⟨(wrap64 (x13_1 + 1)), (by first | rfl | (simp; done) | (simp [*]; done)), H', ⟨by have := HK1.out; omega⟩, by repeat (first | exact Drawn0.refl _ | apply Drawn0.step)⟩
              · rw [if_neg c7] at H
                exact absurd H (by simp)
            · rw [if_neg c6] at H
              exact absurd H (by simp)
          · rw [if_neg c5] at H
            exact absurd H (by simp)
        · rw [if_neg c4] at H
          have c4b0 : decide (x13_1 < (l0.length : Int)) = false := decide_eq_false c4
          clear c4
          obtain rfl := Option.some.inj H
          go_wp2
          repeat (go_quiet (fail); try go_wp2)
          go_ret
          exact ⟨by first | rfl | (simp; done) | (simp [*]; done), by repeat (first | exact Drawn0.refl _ | apply Drawn0.step)⟩
  · rw [if_neg c3] at H
    have c3b0 : ((l0.length : Int) == (l1.length : Int)) = false := beq_eq_false_iff_ne.mpr c3
    have c3b1 : ((l0.length : Int) != (l1.length : Int)) = true := bne_iff_ne.mpr c3
    have c3b2 : (l0.length == l1.length) = false := by first | simpa using c3 | (simp at c3 ⊢; omega)
    obtain rfl := Option.some.inj H
    go_enter Try.func52, Try.ntmps52
    go_wp2
    repeat (go_quiet (fail); try go_wp2)
    go_ret
    exact ⟨by first | rfl | (simp; done) | (simp [*]; done), by repeat (first | exact Drawn0.refl _ | apply Drawn0.step)⟩
end Go.Proofs.Ytalaochocmcbcaa.P
end
section
namespace Go.Proofs.Ytalaochocmcbcaa.P
open Go.RowKit Go.Proofs.YtalaochocmcbcaaW.PrintWords Go.Proofs.YtalaochocmcbcaaW.PrintLast Go.Proofs.YtalaochocmcbcaaW.PrintMore
attribute [local go_sem] max2_int min2_int max_two min_two max_three min_three max_four min_four   -- for this text's walks alone
def code_rec.f (k : Nat) (a0_0 : Int) (a0_1 : Int) (a0_2 : Int) (l0_3 : List Int) (a1_0 : Int) (a1_1 : Int) (a1_2 : Int) (l1_3 : List Int) : Option (Bool) := if a0_0 = a1_0 then (if a0_1 = a1_1 then (if a0_2 = a1_2 then ((slices_Equal_uint16_uint16.f k l0_3 l1_3).bind fun t166 => (some t166)) else (some false)) else (some false)) else (some false)
theorem code_rec.calls (k : Nat) (a0_0 : Int) (a0_1 : Int) (a0_2 : Int) (A0_3 : Option Addr) (c0_3 : Nat) (l0_3 : List Int) (a1_0 : Int) (a1_1 : Int) (a1_2 : Int) (A1_3 : Option Addr) (c1_3 : Nat) (l1_3 : List Int) (r : Bool) (w : World) (hr0_3 : Kd.C (Kd.int .u16) w A0_3 l0_3.length l0_3) (hc0_3 : l0_3.length ≤ c0_3) (hr1_3 : Kd.C (Kd.int .u16) w A1_3 l1_3.length l1_3) (hc1_3 : l1_3.length ≤ c1_3) (h : code_rec.f k a0_0 a0_1 a0_2 l0_3 a1_0 a1_1 a1_2 l1_3 = some r) :
    Calls Try.prog 54 #[.agg #[.int .u16 a0_0, .int .u16 a0_1, .int .u16 a0_2, .slice A0_3 l0_3.length c0_3], .agg #[.int .u16 a1_0, .int .u16 a1_1, .int .u16 a1_2, .slice A1_3 l1_3.length c1_3]] w fun e w' => e = .returned (.bool r) ∧ Below w.heap.size w w' := by
  have hu67 := Try.underlying67
  have HR0_3 := Aside0.mk hr0_3
  have HC0_3 := Aside0.mk hc0_3
  clear hr0_3 hc0_3
  have HR1_3 := Aside0.mk hr1_3
  have HC1_3 := Aside0.mk hc1_3
  clear hr1_3 hc1_3
  have HB := Aside0.mk (Below.refl w.heap.size w)
  have H : (if a0_0 = a1_0 then (if a0_1 = a1_1 then (if a0_2 = a1_2 then ((slices_Equal_uint16_uint16.f k l0_3 l1_3).bind fun t166 => (some t166)) else (some false)) else (some false)) else (some false)) = some r := h
  clear h
  by_cases c3 : a0_0 = a1_0
  · rw [if_pos c3] at H
    have c3b0 : (a0_0 == a1_0) = true := beq_iff_eq.mpr c3
    have c3b1 : (a0_0 != a1_0) = false := bne_eq_false_iff_eq.mpr c3
    clear c3
    by_cases c4 : a0_1 = a1_1
    · rw [if_pos c4] at H
      have c4b0 : (a0_1 == a1_1) = true := beq_iff_eq.mpr c4
      have c4b1 : (a0_1 != a1_1) = false := bne_eq_false_iff_eq.mpr c4
      clear c4
      by_cases c5 : a0_2 = a1_2
      · rw [if_pos c5] at H
        have c5b0 : (a0_2 == a1_2) = true := beq_iff_eq.mpr c5
        have c5b1 : (a0_2 != a1_2) = false := bne_eq_false_iff_eq.mpr c5
        clear c5
        replace H := Option.bind_eq_some_iff.mp H
        obtain ⟨t166, A60, H⟩ := H
        replace H : (some t166) = some r := H
        have A6 := Aside0.mk A60
        clear A60
        obtain rfl := Option.some.inj H
        go_enter Try.func54, Try.ntmps54
        go_wp2_with (first | ((with_reducible refine gate_dst (N := 2) rfl ?_); refine box_event ?hg (N := 2) ?hd (cs := #[.int .u16 a0_0, .int .u16 a0_1, .int .u16 a0_2, .slice A0_3 l0_3.length c0_3]) (t := 67) ?hr ?_; (case hd => rfl); (case hg => rfl); (case hr => first | (go_simp; done) | (go_simp; rfl)); intro gb164 hg w7 hbox hb; have n0_ := Aside0.mk (below_step (by repeat (first | (with_reducible first | exact HB.out | apply below_alloc | apply pw_below_drewN | apply below_drew1) | exact HB.out)) hb); have n1_ := Aside0.mk (hbox); have n2_ := Aside0.mk ((by rw [hg]; exact (below_size (by repeat (first | (with_reducible first | exact HB.out | apply below_alloc | apply pw_below_drewN | apply below_drew1) | exact HB.out))) : w.heap.size ≤ gb164)); have n3_ := Aside0.mk ((by rw [hg]; exact (below_size (by repeat (first | (with_reducible first | exact HB.out | apply below_alloc | apply pw_below_drewN | apply below_drew1) | exact HB.out))) : w.heap.size ≤ gb164)); clear HB; have HB := n0_; have BK164 := n1_; have GW164 := n2_; have GE164 := n3_; clear n0_ n1_ n2_ n3_; clear hb hbox hg) | ((with_reducible refine gate_dst (N := 3) rfl ?_); refine box_event ?hg (N := 3) ?hd (cs := #[.int .u16 a1_0, .int .u16 a1_1, .int .u16 a1_2, .slice A1_3 l1_3.length c1_3]) (t := 67) ?hr ?_; (case hd => rfl); (case hg => rfl); (case hr => first | (go_simp; done) | (go_simp; rfl)); intro gb165 hg w8 hbox hb; have n0_ := Aside0.mk (blk_below (g := gb164) (o := .cells #[.int .u16 a0_0, .int .u16 a0_1, .int .u16 a0_2, .slice A0_3 l0_3.length c0_3] 67 (0, 0)) (by (with_reducible repeat (first | refine blk_drewN ?_ _ | refine blk_drew ?_ | refine blk_alloc ?_ _)); exact BK164.out) hb); have n1_ := Aside0.mk (below_step (by repeat (first | (with_reducible first | exact HB.out | apply below_alloc | apply pw_below_drewN | apply below_drew1 | refine below_set ?_ GE164.out) | exact HB.out)) hb); have n2_ := Aside0.mk (hbox); have n3_ := Aside0.mk ((by rw [hg]; exact (below_size (by repeat (first | (with_reducible first | exact HB.out | apply below_alloc | apply pw_below_drewN | apply below_drew1 | refine below_set ?_ GE164.out) | exact HB.out))) : w.heap.size ≤ gb165)); have n4_ := Aside0.mk ((by rw [hg]; exact (below_size (by repeat (first | (with_reducible first | exact HB.out | apply below_alloc | apply pw_below_drewN | apply below_drew1 | refine below_set ?_ GE164.out) | exact HB.out))) : w.heap.size ≤ gb165)); have n5_ := Aside0.mk ((by rw [hg]; exact Nat.ne_of_lt (blk_lt (g := gb164) (o := .cells #[.int .u16 a0_0, .int .u16 a0_1, .int .u16 a0_2, .slice A0_3 l0_3.length c0_3] 67 (0, 0)) (by (with_reducible repeat (first | refine blk_drewN ?_ _ | refine blk_drew ?_ | refine blk_alloc ?_ _)); exact BK164.out)) : gb164 ≠ gb165)); have n6_ := Aside0.mk ((by rw [hg]; exact Nat.ne_of_gt (blk_lt (g := gb164) (o := .cells #[.int .u16 a0_0, .int .u16 a0_1, .int .u16 a0_2, .slice A0_3 l0_3.length c0_3] 67 (0, 0)) (by (with_reducible repeat (first | refine blk_drewN ?_ _ | refine blk_drew ?_ | refine blk_alloc ?_ _)); exact BK164.out)) : gb165 ≠ gb164)); clear BK164; clear HB; have BK164 := n0_; have HB := n1_; have BK165 := n2_; have GW165 := n3_; have GE165 := n4_; have NB164_165 := n5_; have NB165_164 := n6_; clear n0_ n1_ n2_ n3_ n4_ n5_ n6_; clear hb hbox hg; have hnb9 := NB164_165.out; have hnc9 := NB165_164.out; have hcz10_0 : w8.cell? ⟨gb164, 0, none⟩ = some (.int .u16 a0_0) := (blk_cell BK164.out 0).trans rfl; have hcz10_1 : w8.cell? ⟨gb164, 1, none⟩ = some (.int .u16 a0_1) := (blk_cell BK164.out 1).trans rfl; have hcz10_2 : w8.cell? ⟨gb164, 2, none⟩ = some (.int .u16 a0_2) := (blk_cell BK164.out 2).trans rfl; have hcz10_3 : w8.cell? ⟨gb164, 3, none⟩ = some (.slice A0_3 l0_3.length c0_3) := (blk_cell BK164.out 3).trans rfl; have hfz10_0 := blk_frozen BK164.out 0; have hfz10_1 := blk_frozen BK164.out 1; have hfz10_2 := blk_frozen BK164.out 2; have hfz10_3 := blk_frozen BK164.out 3; have hcz11_0 : w8.cell? ⟨gb165, 0, none⟩ = some (.int .u16 a1_0) := (blk_cell BK165.out 0).trans rfl; have hcz11_1 : w8.cell? ⟨gb165, 1, none⟩ = some (.int .u16 a1_1) := (blk_cell BK165.out 1).trans rfl; have hcz11_2 : w8.cell? ⟨gb165, 2, none⟩ = some (.int .u16 a1_2) := (blk_cell BK165.out 2).trans rfl; have hcz11_3 : w8.cell? ⟨gb165, 3, none⟩ = some (.slice A1_3 l1_3.length c1_3) := (blk_cell BK165.out 3).trans rfl; have hfz11_0 := blk_frozen BK165.out 0; have hfz11_1 := blk_frozen BK165.out 1; have hfz11_2 := blk_frozen BK165.out 2; have hfz11_3 := blk_frozen BK165.out 3) | (go_at_call 51; (with_reducible refine (slices_Equal_uint16_uint16.calls k _ _ l0_3 _ _ l1_3 t166 _ ?side1 ?side2 ?side3 ?side4 A6.out).mono ?_); (case side1 => repeat (first | exact (Kd.C_below HR0_3.out HB.out) | (with_reducible refine Kd.C_alloc ?_ _) | (with_reducible refine Kd.C_drewN ?_ _) | (with_reducible refine Kd.C_drew ?_))); (case side2 => exact HC0_3.out); (case side3 => repeat (first | exact (Kd.C_below HR1_3.out HB.out) | (with_reducible refine Kd.C_alloc ?_ _) | (with_reducible refine Kd.C_drewN ?_ _) | (with_reducible refine Kd.C_drew ?_))); (case side4 => exact HC1_3.out); rintro e w' ⟨rfl, ⟨nd, rfl⟩⟩))
        go_ret
        exact ⟨by first | rfl | (simp [errW_none, errW_some] <;> rfl) | (simp [*, errW_none, errW_some] <;> rfl), by repeat (first | (with_reducible first | exact HB.out | apply below_alloc | apply pw_below_drewN | apply below_drew1 | refine below_set ?_ GE164.out | refine below_set ?_ GE165.out) | exact HB.out)⟩
      · rw [if_neg c5] at H
        have c5b0 : (a0_2 == a1_2) = false := beq_eq_false_iff_ne.mpr c5
        have c5b1 : (a0_2 != a1_2) = true := bne_iff_ne.mpr c5
        obtain rfl := Option.some.inj H
        go_enter Try.func54, Try.ntmps54
        go_wp2_with (first | ((with_reducible refine gate_dst (N := 2) rfl ?_); refine box_event ?hg (N := 2) ?hd (cs := #[.int .u16 a0_0, .int .u16 a0_1, .int .u16 a0_2, .slice A0_3 l0_3.length c0_3]) (t := 67) ?hr ?_; (case hd => rfl); (case hg => rfl); (case hr => first | (go_simp; done) | (go_simp; rfl)); intro gb164 hg w12 hbox hb; have n0_ := Aside0.mk (below_step (by repeat (first | (with_reducible first | exact HB.out | apply below_alloc | apply pw_below_drewN | apply below_drew1) | exact HB.out)) hb); have n1_ := Aside0.mk (hbox); have n2_ := Aside0.mk ((by rw [hg]; exact (below_size (by repeat (first | (with_reducible first | exact HB.out | apply below_alloc | apply pw_below_drewN | apply below_drew1) | exact HB.out))) : w.heap.size ≤ gb164)); have n3_ := Aside0.mk ((by rw [hg]; exact (below_size (by repeat (first | (with_reducible first | exact HB.out | apply below_alloc | apply pw_below_drewN | apply below_drew1) | exact HB.out))) : w.heap.size ≤ gb164)); clear HB; have HB := n0_; have BK164 := n1_; have GW164 := n2_; have GE164 := n3_; clear n0_ n1_ n2_ n3_; clear hb hbox hg) | ((with_reducible refine gate_dst (N := 3) rfl ?_); refine box_event ?hg (N := 3) ?hd (cs := #[.int .u16 a1_0, .int .u16 a1_1, .int .u16 a1_2, .slice A1_3 l1_3.length c1_3]) (t := 67) ?hr ?_; (case hd => rfl); (case hg => rfl); (case hr => first | (go_simp; done) | (go_simp; rfl)); intro gb165 hg w13 hbox hb; have n0_ := Aside0.mk (blk_below (g := gb164) (o := .cells #[.int .u16 a0_0, .int .u16 a0_1, .int .u16 a0_2, .slice A0_3 l0_3.length c0_3] 67 (0, 0)) (by (with_reducible repeat (first | refine blk_drewN ?_ _ | refine blk_drew ?_ | refine blk_alloc ?_ _)); exact BK164.out) hb); have n1_ := Aside0.mk (below_step (by repeat (first | (with_reducible first | exact HB.out | apply below_alloc | apply pw_below_drewN | apply below_drew1 | refine below_set ?_ GE164.out) | exact HB.out)) hb); have n2_ := Aside0.mk (hbox); have n3_ := Aside0.mk ((by rw [hg]; exact (below_size (by repeat (first | (with_reducible first | exact HB.out | apply below_alloc | apply pw_below_drewN | apply below_drew1 | refine below_set ?_ GE164.out) | exact HB.out))) : w.heap.size ≤ gb165)); have n4_ := Aside0.mk ((by rw [hg]; exact (below_size (by repeat (first | (with_reducible first | exact HB.out | apply below_alloc | apply pw_below_drewN | apply below_drew1 | refine below_set ?_ GE164.out) | exact HB.out))) : w.heap.size ≤ gb165)); have n5_ := Aside0.mk ((by rw [hg]; exact Nat.ne_of_lt (blk_lt (g := gb164) (o := .cells #[.int .u16 a0_0, .int .u16 a0_1, .int .u16 a0_2, .slice A0_3 l0_3.length c0_3] 67 (0, 0)) (by (with_reducible repeat (first | refine blk_drewN ?_ _ | refine blk_drew ?_ | refine blk_alloc ?_ _)); exact BK164.out)) : gb164 ≠ gb165)); have n6_ := Aside0.mk ((by rw [hg]; exact Nat.ne_of_gt (blk_lt (g := gb164) (o := .cells #[.int .u16 a0_0, .int .u16 a0_1, .int .u16 a0_2, .slice A0_3 l0_3.length c0_3] 67 (0, 0)) (by (with_reducible repeat (first | refine blk_drewN ?_ _ | refine blk_drew ?_ | refine blk_alloc ?_ _)); exact BK164.out)) : gb165 ≠ gb164)); clear BK164; clear HB; have BK164 := n0_; have HB := n1_; have BK165 := n2_; have GW165 := n3_; have GE165 := n4_; have NB164_165 := n5_; have NB165_164 := n6_; clear n0_ n1_ n2_ n3_ n4_ n5_ n6_; clear hb hbox hg; have hnb14 := NB164_165.out; have hnc14 := NB165_164.out; have hcz15_0 : w13.cell? ⟨gb164, 0, none⟩ = some (.int .u16 a0_0) := (blk_cell BK164.out 0).trans rfl; have hcz15_1 : w13.cell? ⟨gb164, 1, none⟩ = some (.int .u16 a0_1) := (blk_cell BK164.out 1).trans rfl; have hcz15_2 : w13.cell? ⟨gb164, 2, none⟩ = some (.int .u16 a0_2) := (blk_cell BK164.out 2).trans rfl; have hcz15_3 : w13.cell? ⟨gb164, 3, none⟩ = some (.slice A0_3 l0_3.length c0_3) := (blk_cell BK164.out 3).trans rfl; have hfz15_0 := blk_frozen BK164.out 0; have hfz15_1 := blk_frozen BK164.out 1; have hfz15_2 := blk_frozen BK164.out 2; have hfz15_3 := blk_frozen BK164.out 3; have hcz16_0 : w13.cell? ⟨gb165, 0, none⟩ = some (.int .u16 a1_0) := (blk_cell BK165.out 0).trans rfl; have hcz16_1 : w13.cell? ⟨gb165, 1, none⟩ = some (.int .u16 a1_1) := (blk_cell BK165.out 1).trans rfl; have hcz16_2 : w13.cell? ⟨gb165, 2, none⟩ = some (.int .u16 a1_2) := (blk_cell BK165.out 2).trans rfl; have hcz16_3 : w13.cell? ⟨gb165, 3, none⟩ = some (.slice A1_3 l1_3.length c1_3) := (blk_cell BK165.out 3).trans rfl; have hfz16_0 := blk_frozen BK165.out 0; have hfz16_1 := blk_frozen BK165.out 1; have hfz16_2 := blk_frozen BK165.out 2; have hfz16_3 := blk_frozen BK165.out 3))
        go_ret
        exact ⟨by first | rfl | (simp [errW_none, errW_some] <;> rfl) | (simp [*, errW_none, errW_some] <;> rfl), by repeat (first | (with_reducible first | exact HB.out | apply below_alloc | apply pw_below_drewN | apply below_drew1 | refine below_set ?_ GE164.out | refine below_set ?_ GE165.out) | exact HB.out)⟩
    · rw [if_neg c4] at H
      have c4b0 : (a0_1 == a1_1) = false := beq_eq_false_iff_ne.mpr c4
      have c4b1 : (a0_1 != a1_1) = true := bne_iff_ne.mpr c4
      obtain rfl := Option.some.inj H
      go_enter Try.func54, Try.ntmps54
      go_wp2_with (first | ((with_reducible refine gate_dst (N := 2) rfl ?_); refine box_event ?hg (N := 2) ?hd (cs := #[.int .u16 a0_0, .int .u16 a0_1, .int .u16 a0_2, .slice A0_3 l0_3.length c0_3]) (t := 67) ?hr ?_; (case hd => rfl); (case hg => rfl); (case hr => first | (go_simp; done) | (go_simp; rfl)); intro gb164 hg w17 hbox hb; have n0_ := Aside0.mk (below_step (by repeat (first | (with_reducible first | exact HB.out | apply below_alloc | apply pw_below_drewN | apply below_drew1) | exact HB.out)) hb); have n1_ := Aside0.mk (hbox); have n2_ := Aside0.mk ((by rw [hg]; exact (below_size (by repeat (first | (with_reducible first | exact HB.out | apply below_alloc | apply pw_below_drewN | apply below_drew1) | exact HB.out))) : w.heap.size ≤ gb164)); have n3_ := Aside0.mk ((by rw [hg]; exact (below_size (by repeat (first | (with_reducible first | exact HB.out | apply below_alloc | apply pw_below_drewN | apply below_drew1) | exact HB.out))) : w.heap.size ≤ gb164)); clear HB; have HB := n0_; have BK164 := n1_; have GW164 := n2_; have GE164 := n3_; clear n0_ n1_ n2_ n3_; clear hb hbox hg) | ((with_reducible refine gate_dst (N := 3) rfl ?_); refine box_event ?hg (N := 3) ?hd (cs := #[.int .u16 a1_0, .int .u16 a1_1, .int .u16 a1_2, .slice A1_3 l1_3.length c1_3]) (t := 67) ?hr ?_; (case hd => rfl); (case hg => rfl); (case hr => first | (go_simp; done) | (go_simp; rfl)); intro gb165 hg w18 hbox hb; have n0_ := Aside0.mk (blk_below (g := gb164) (o := .cells #[.int .u16 a0_0, .int .u16 a0_1, .int .u16 a0_2, .slice A0_3 l0_3.length c0_3] 67 (0, 0)) (by (with_reducible repeat (first | refine blk_drewN ?_ _ | refine blk_drew ?_ | refine blk_alloc ?_ _)); exact BK164.out) hb); have n1_ := Aside0.mk (below_step (by repeat (first | (with_reducible first | exact HB.out | apply below_alloc | apply pw_below_drewN | apply below_drew1 | refine below_set ?_ GE164.out) | exact HB.out)) hb); have n2_ := Aside0.mk (hbox); have n3_ := Aside0.mk ((by rw [hg]; exact (below_size (by repeat (first | (with_reducible first | exact HB.out | apply below_alloc | apply pw_below_drewN | apply below_drew1 | refine below_set ?_ GE164.out) | exact HB.out))) : w.heap.size ≤ gb165)); have n4_ := Aside0.mk ((by rw [hg]; exact (below_size (by repeat (first | (with_reducible first | exact HB.out | apply below_alloc | apply pw_below_drewN | apply below_drew1 | refine below_set ?_ GE164.out) | exact HB.out))) : w.heap.size ≤ gb165)); have n5_ := Aside0.mk ((by rw [hg]; exact Nat.ne_of_lt (blk_lt (g := gb164) (o := .cells #[.int .u16 a0_0, .int .u16 a0_1, .int .u16 a0_2, .slice A0_3 l0_3.length c0_3] 67 (0, 0)) (by (with_reducible repeat (first | refine blk_drewN ?_ _ | refine blk_drew ?_ | refine blk_alloc ?_ _)); exact BK164.out)) : gb164 ≠ gb165)); have n6_ := Aside0.mk ((by rw [hg]; exact Nat.ne_of_gt (blk_lt (g := gb164) (o := .cells #[.int .u16 a0_0, .int .u16 a0_1, .int .u16 a0_2, .slice A0_3 l0_3.length c0_3] 67 (0, 0)) (by (with_reducible repeat (first | refine blk_drewN ?_ _ | refine blk_drew ?_ | refine blk_alloc ?_ _)); exact BK164.out)) : gb165 ≠ gb164)); clear BK164; clear HB; have BK164 := n0_; have HB := n1_; have BK165 := n2_; have GW165 := n3_; have GE165 := n4_; have NB164_165 := n5_; have NB165_164 := n6_; clear n0_ n1_ n2_ n3_ n4_ n5_ n6_; clear hb hbox hg; have hnb19 := NB164_165.out; have hnc19 := NB165_164.out; have hcz20_0 : w18.cell? ⟨gb164, 0, none⟩ = some (.int .u16 a0_0) := (blk_cell BK164.out 0).trans rfl; have hcz20_1 : w18.cell? ⟨gb164, 1, none⟩ = some (.int .u16 a0_1) := (blk_cell BK164.out 1).trans rfl; have hcz20_2 : w18.cell? ⟨gb164, 2, none⟩ = some (.int .u16 a0_2) := (blk_cell BK164.out 2).trans rfl; have hcz20_3 : w18.cell? ⟨gb164, 3, none⟩ = some (.slice A0_3 l0_3.length c0_3) := (blk_cell BK164.out 3).trans rfl; have hfz20_0 := blk_frozen BK164.out 0; have hfz20_1 := blk_frozen BK164.out 1; have hfz20_2 := blk_frozen BK164.out 2; have hfz20_3 := blk_frozen BK164.out 3; have hcz21_0 : w18.cell? ⟨gb165, 0, none⟩ = some (.int .u16 a1_0) := (blk_cell BK165.out 0).trans rfl; have hcz21_1 : w18.cell? ⟨gb165, 1, none⟩ = some (.int .u16 a1_1) := (blk_cell BK165.out 1).trans rfl; have hcz21_2 : w18.cell? ⟨gb165, 2, none⟩ = some (.int .u16 a1_2) := (blk_cell BK165.out 2).trans rfl; have hcz21_3 : w18.cell? ⟨gb165, 3, none⟩ = some (.slice A1_3 l1_3.length c1_3) := (blk_cell BK165.out 3).trans rfl; have hfz21_0 := blk_frozen BK165.out 0; have hfz21_1 := blk_frozen BK165.out 1; have hfz21_2 := blk_frozen BK165.out 2; have hfz21_3 := blk_frozen BK165.out 3))
      go_ret
      exact ⟨by first | rfl | (simp [errW_none, errW_some] <;> rfl) | (simp [*, errW_none, errW_some] <;> rfl), by repeat (first | (with_reducible first | exact HB.out | apply below_alloc | apply pw_below_drewN | apply below_drew1 | refine below_set ?_ GE164.out | refine below_set ?_ GE165.out) | exact HB.out)⟩
  · rw [if_neg c3] at H
    have c3b0 : (a0_0 == a1_0) = false := beq_eq_false_iff_ne.mpr c3
    have c3b1 : (a0_0 != a1_0) = true := bne_iff_ne.mpr c3
    obtain rfl := Option.some.inj H
    go_enter Try.func54, Try.ntmps54
    go_wp2_with (first | ((with_reducible refine gate_dst (N := 2) rfl ?_); refine box_event ?hg (N := 2) ?hd (cs := #[.int .u16 a0_0, .int .u16 a0_1, .int .u16 a0_2, .slice A0_3 l0_3.length c0_3]) (t := 67) ?hr ?_; (case hd => rfl); (case hg => rfl); (case hr => first | (go_simp; done) | (go_simp; rfl)); intro gb164 hg w22 hbox hb; have n0_ := Aside0.mk (below_step (by repeat (first | (with_reducible first | exact HB.out | apply below_alloc | apply pw_below_drewN | apply below_drew1) | exact HB.out)) hb); have n1_ := Aside0.mk (hbox); have n2_ := Aside0.mk ((by rw [hg]; exact (below_size (by repeat (first | (with_reducible first | exact HB.out | apply below_alloc | apply pw_below_drewN | apply below_drew1) | exact HB.out))) : w.heap.size ≤ gb164)); have n3_ := Aside0.mk ((by rw [hg]; exact (below_size (by repeat (first | (with_reducible first | exact HB.out | apply below_alloc | apply pw_below_drewN | apply below_drew1) | exact HB.out))) : w.heap.size ≤ gb164)); clear HB; have HB := n0_; have BK164 := n1_; have GW164 := n2_; have GE164 := n3_; clear n0_ n1_ n2_ n3_; clear hb hbox hg) | ((with_reducible refine gate_dst (N := 3) rfl ?_); refine box_event ?hg (N := 3) ?hd (cs := #[.int .u16 a1_0, .int .u16 a1_1, .int .u16 a1_2, .slice A1_3 l1_3.length c1_3]) (t := 67) ?hr ?_; (case hd => rfl); (case hg => rfl); (case hr => first | (go_simp; done) | (go_simp; rfl)); intro gb165 hg w23 hbox hb; have n0_ := Aside0.mk (blk_below (g := gb164) (o := .cells #[.int .u16 a0_0, .int .u16 a0_1, .int .u16 a0_2, .slice A0_3 l0_3.length c0_3] 67 (0, 0)) (by (with_reducible repeat (first | refine blk_drewN ?_ _ | refine blk_drew ?_ | refine blk_alloc ?_ _)); exact BK164.out) hb); have n1_ := Aside0.mk (below_step (by repeat (first | (with_reducible first | exact HB.out | apply below_alloc | apply pw_below_drewN | apply below_drew1 | refine below_set ?_ GE164.out) | exact HB.out)) hb); have n2_ := Aside0.mk (hbox); have n3_ := Aside0.mk ((by rw [hg]; exact (below_size (by repeat (first | (with_reducible first | exact HB.out | apply below_alloc | apply pw_below_drewN | apply below_drew1 | refine below_set ?_ GE164.out) | exact HB.out))) : w.heap.size ≤ gb165)); have n4_ := Aside0.mk ((by rw [hg]; exact (below_size (by repeat (first | (with_reducible first | exact HB.out | apply below_alloc | apply pw_below_drewN | apply below_drew1 | refine below_set ?_ GE164.out) | exact HB.out))) : w.heap.size ≤ gb165)); have n5_ := Aside0.mk ((by rw [hg]; exact Nat.ne_of_lt (blk_lt (g := gb164) (o := .cells #[.int .u16 a0_0, .int .u16 a0_1, .int .u16 a0_2, .slice A0_3 l0_3.length c0_3] 67 (0, 0)) (by (with_reducible repeat (first | refine blk_drewN ?_ _ | refine blk_drew ?_ | refine blk_alloc ?_ _)); exact BK164.out)) : gb164 ≠ gb165)); have n6_ := Aside0.mk ((by rw [hg]; exact Nat.ne_of_gt (blk_lt (g := gb164) (o := .cells #[.int .u16 a0_0, .int .u16 a0_1, .int .u16 a0_2, .slice A0_3 l0_3.length c0_3] 67 (0, 0)) (by (with_reducible repeat (first | refine blk_drewN ?_ _ | refine blk_drew ?_ | refine blk_alloc ?_ _)); exact BK164.out)) : gb165 ≠ gb164)); clear BK164; clear HB; have BK164 := n0_; have HB := n1_; have BK165 := n2_; have GW165 := n3_; have GE165 := n4_; have NB164_165 := n5_; have NB165_164 := n6_; clear n0_ n1_ n2_ n3_ n4_ n5_ n6_; clear hb hbox hg; have hnb24 := NB164_165.out; have hnc24 := NB165_164.out; have hcz25_0 : w23.cell? ⟨gb164, 0, none⟩ = some (.int .u16 a0_0) := (blk_cell BK164.out 0).trans rfl; have hcz25_1 : w23.cell? ⟨gb164, 1, none⟩ = some (.int .u16 a0_1) := (blk_cell BK164.out 1).trans rfl; have hcz25_2 : w23.cell? ⟨gb164, 2, none⟩ = some (.int .u16 a0_2) := (blk_cell BK164.out 2).trans rfl; have hcz25_3 : w23.cell? ⟨gb164, 3, none⟩ = some (.slice A0_3 l0_3.length c0_3) := (blk_cell BK164.out 3).trans rfl; have hfz25_0 := blk_frozen BK164.out 0; have hfz25_1 := blk_frozen BK164.out 1; have hfz25_2 := blk_frozen BK164.out 2; have hfz25_3 := blk_frozen BK164.out 3; have hcz26_0 : w23.cell? ⟨gb165, 0, none⟩ = some (.int .u16 a1_0) := (blk_cell BK165.out 0).trans rfl; have hcz26_1 : w23.cell? ⟨gb165, 1, none⟩ = some (.int .u16 a1_1) := (blk_cell BK165.out 1).trans rfl; have hcz26_2 : w23.cell? ⟨gb165, 2, none⟩ = some (.int .u16 a1_2) := (blk_cell BK165.out 2).trans rfl; have hcz26_3 : w23.cell? ⟨gb165, 3, none⟩ = some (.slice A1_3 l1_3.length c1_3) := (blk_cell BK165.out 3).trans rfl; have hfz26_0 := blk_frozen BK165.out 0; have hfz26_1 := blk_frozen BK165.out 1; have hfz26_2 := blk_frozen BK165.out 2; have hfz26_3 := blk_frozen BK165.out 3))
    go_ret
    exact ⟨by first | rfl | (simp [errW_none, errW_some] <;> rfl) | (simp [*, errW_none, errW_some] <;> rfl), by repeat (first | (with_reducible first | exact HB.out | apply below_alloc | apply pw_below_drewN | apply below_drew1 | refine below_set ?_ GE164.out | refine below_set ?_ GE165.out) | exact HB.out)⟩
end Go.Proofs.Ytalaochocmcbcaa.P
end
section
namespace Go.Proofs.Ytalaochocmcbcaa.P
open Go.RowKit Go.Proofs.YtalaochocmcbcaaW.PrintWords Go.Proofs.YtalaochocmcbcaaW.PrintLast Go.Proofs.YtalaochocmcbcaaW.PrintMore
attribute [local go_sem] max2_int min2_int max_two min_two max_three min_three max_four min_four   -- for this text's walks alone
def code_object.f (a0_0 : Int) (l0_1 : List Int) (a1_0 : Int) (l1_1 : List Int) : Option (Bool) := if a0_0 = a1_0 then (some ((strOfNums l0_1).toList == (strOfNums l1_1).toList)) else (some false)
theorem code_object.calls (a0_0 : Int) (A0_1 : Option Addr) (c0_1 : Nat) (l0_1 : List Int) (a1_0 : Int) (A1_1 : Option Addr) (c1_1 : Nat) (l1_1 : List Int) (r : Bool) (w : World) (hr0_1 : Kd.C (Kd.int .u8) w A0_1 l0_1.length l0_1) (hc0_1 : l0_1.length ≤ c0_1) (hr1_1 : Kd.C (Kd.int .u8) w A1_1 l1_1.length l1_1) (hc1_1 : l1_1.length ≤ c1_1) (h : code_object.f a0_0 l0_1 a1_0 l1_1 = some r) :
    Calls Try.prog 56 #[.agg #[.int .u8 a0_0, .slice A0_1 l0_1.length c0_1], .agg #[.int .u8 a1_0, .slice A1_1 l1_1.length c1_1]] w fun e w' => e = .returned (.bool r) ∧ Below w.heap.size w w' := by
  have hu69 := Try.underlying69
  have HR0_1 := Aside0.mk hr0_1
  have HC0_1 := Aside0.mk hc0_1
  clear hr0_1 hc0_1
  have HR1_1 := Aside0.mk hr1_1
  have HC1_1 := Aside0.mk hc1_1
  clear hr1_1 hc1_1
  have HB := Aside0.mk (Below.refl w.heap.size w)
  have H : (if a0_0 = a1_0 then (some ((strOfNums l0_1).toList == (strOfNums l1_1).toList)) else (some false)) = some r := h
  clear h
  by_cases c3 : a0_0 = a1_0
  · rw [if_pos c3] at H
    have c3b0 : (a0_0 == a1_0) = true := beq_iff_eq.mpr c3
    have c3b1 : (a0_0 != a1_0) = false := bne_eq_false_iff_eq.mpr c3
    clear c3
    obtain rfl := Option.some.inj H
    go_enter Try.func56, Try.ntmps56
    go_wp2_with (first | ((with_reducible refine gate_dst (N := 2) rfl ?_); refine box_event ?hg (N := 2) ?hd (cs := #[.int .u8 a0_0, .slice A0_1 l0_1.length c0_1]) (t := 69) ?hr ?_; (case hd => rfl); (case hg => rfl); (case hr => first | (go_simp; done) | (go_simp; rfl)); intro gb167 hg w4 hbox hb; have n0_ := Aside0.mk (below_step (by repeat (first | (with_reducible first | exact HB.out | apply below_alloc | apply pw_below_drewN | apply below_drew1) | exact HB.out)) hb); have n1_ := Aside0.mk (hbox); have n2_ := Aside0.mk ((by rw [hg]; exact (below_size (by repeat (first | (with_reducible first | exact HB.out | apply below_alloc | apply pw_below_drewN | apply below_drew1) | exact HB.out))) : w.heap.size ≤ gb167)); have n3_ := Aside0.mk ((by rw [hg]; exact (below_size (by repeat (first | (with_reducible first | exact HB.out | apply below_alloc | apply pw_below_drewN | apply below_drew1) | exact HB.out))) : w.heap.size ≤ gb167)); clear HB; have HB := n0_; have BK167 := n1_; have GW167 := n2_; have GE167 := n3_; clear n0_ n1_ n2_ n3_; clear hb hbox hg) | ((with_reducible refine gate_dst (N := 3) rfl ?_); refine box_event ?hg (N := 3) ?hd (cs := #[.int .u8 a1_0, .slice A1_1 l1_1.length c1_1]) (t := 69) ?hr ?_; (case hd => rfl); (case hg => rfl); (case hr => first | (go_simp; done) | (go_simp; rfl)); intro gb168 hg w5 hbox hb; have n0_ := Aside0.mk (blk_below (g := gb167) (o := .cells #[.int .u8 a0_0, .slice A0_1 l0_1.length c0_1] 69 (0, 0)) (by (with_reducible repeat (first | refine blk_drewN ?_ _ | refine blk_drew ?_ | refine blk_alloc ?_ _)); exact BK167.out) hb); have n1_ := Aside0.mk (below_step (by repeat (first | (with_reducible first | exact HB.out | apply below_alloc | apply pw_below_drewN | apply below_drew1 | refine below_set ?_ GE167.out) | exact HB.out)) hb); have n2_ := Aside0.mk (hbox); have n3_ := Aside0.mk ((by rw [hg]; exact (below_size (by repeat (first | (with_reducible first | exact HB.out | apply below_alloc | apply pw_below_drewN | apply below_drew1 | refine below_set ?_ GE167.out) | exact HB.out))) : w.heap.size ≤ gb168)); have n4_ := Aside0.mk ((by rw [hg]; exact (below_size (by repeat (first | (with_reducible first | exact HB.out | apply below_alloc | apply pw_below_drewN | apply below_drew1 | refine below_set ?_ GE167.out) | exact HB.out))) : w.heap.size ≤ gb168)); have n5_ := Aside0.mk ((by rw [hg]; exact Nat.ne_of_lt (blk_lt (g := gb167) (o := .cells #[.int .u8 a0_0, .slice A0_1 l0_1.length c0_1] 69 (0, 0)) (by (with_reducible repeat (first | refine blk_drewN ?_ _ | refine blk_drew ?_ | refine blk_alloc ?_ _)); exact BK167.out)) : gb167 ≠ gb168)); have n6_ := Aside0.mk ((by rw [hg]; exact Nat.ne_of_gt (blk_lt (g := gb167) (o := .cells #[.int .u8 a0_0, .slice A0_1 l0_1.length c0_1] 69 (0, 0)) (by (with_reducible repeat (first | refine blk_drewN ?_ _ | refine blk_drew ?_ | refine blk_alloc ?_ _)); exact BK167.out)) : gb168 ≠ gb167)); clear BK167; clear HB; have BK167 := n0_; have HB := n1_; have BK168 := n2_; have GW168 := n3_; have GE168 := n4_; have NB167_168 := n5_; have NB168_167 := n6_; clear n0_ n1_ n2_ n3_ n4_ n5_ n6_; clear hb hbox hg; have hnb6 := NB167_168.out; have hnc6 := NB168_167.out; have hcz7_0 : w5.cell? ⟨gb167, 0, none⟩ = some (.int .u8 a0_0) := (blk_cell BK167.out 0).trans rfl; have hcz7_1 : w5.cell? ⟨gb167, 1, none⟩ = some (.slice A0_1 l0_1.length c0_1) := (blk_cell BK167.out 1).trans rfl; have hfz7_0 := blk_frozen BK167.out 0; have hfz7_1 := blk_frozen BK167.out 1; have hcz8_0 : w5.cell? ⟨gb168, 0, none⟩ = some (.int .u8 a1_0) := (blk_cell BK168.out 0).trans rfl; have hcz8_1 : w5.cell? ⟨gb168, 1, none⟩ = some (.slice A1_1 l1_1.length c1_1) := (blk_cell BK168.out 1).trans rfl; have hfz8_0 := blk_frozen BK168.out 0; have hfz8_1 := blk_frozen BK168.out 1; have hcv9 := Kd.C_string (P := Try.prog) (A := A0_1) (c := c0_1) Try.underlying22 Try.underlying5 Try.underlying9 (Kd.C_below HR0_1.out HB.out); have hcv10 := Kd.C_string (P := Try.prog) (A := A1_1) (c := c1_1) Try.underlying22 Try.underlying5 Try.underlying9 (Kd.C_below HR1_1.out HB.out)))
    go_ret
    exact ⟨by first | rfl | (simp [errW_none, errW_some] <;> rfl) | (simp [*, errW_none, errW_some] <;> rfl), by repeat (first | (with_reducible first | exact HB.out | apply below_alloc | apply pw_below_drewN | apply below_drew1 | refine below_set ?_ GE167.out | refine below_set ?_ GE168.out) | exact HB.out)⟩
  · rw [if_neg c3] at H
    have c3b0 : (a0_0 == a1_0) = false := beq_eq_false_iff_ne.mpr c3
    have c3b1 : (a0_0 != a1_0) = true := bne_iff_ne.mpr c3
    obtain rfl := Option.some.inj H
    go_enter Try.func56, Try.ntmps56
    go_wp2_with (first | ((with_reducible refine gate_dst (N := 2) rfl ?_); refine box_event ?hg (N := 2) ?hd (cs := #[.int .u8 a0_0, .slice A0_1 l0_1.length c0_1]) (t := 69) ?hr ?_; (case hd => rfl); (case hg => rfl); (case hr => first | (go_simp; done) | (go_simp; rfl)); intro gb167 hg w11 hbox hb; have n0_ := Aside0.mk (below_step (by repeat (first | (with_reducible first | exact HB.out | apply below_alloc | apply pw_below_drewN | apply below_drew1) | exact HB.out)) hb); have n1_ := Aside0.mk (hbox); have n2_ := Aside0.mk ((by rw [hg]; exact (below_size (by repeat (first | (with_reducible first | exact HB.out | apply below_alloc | apply pw_below_drewN | apply below_drew1) | exact HB.out))) : w.heap.size ≤ gb167)); have n3_ := Aside0.mk ((by rw [hg]; exact (below_size (by repeat (first | (with_reducible first | exact HB.out | apply below_alloc | apply pw_below_drewN | apply below_drew1) | exact HB.out))) : w.heap.size ≤ gb167)); clear HB; have HB := n0_; have BK167 := n1_; have GW167 := n2_; have GE167 := n3_; clear n0_ n1_ n2_ n3_; clear hb hbox hg) | ((with_reducible refine gate_dst (N := 3) rfl ?_); refine box_event ?hg (N := 3) ?hd (cs := #[.int .u8 a1_0, .slice A1_1 l1_1.length c1_1]) (t := 69) ?hr ?_; (case hd => rfl); (case hg => rfl); (case hr => first | (go_simp; done) | (go_simp; rfl)); intro gb168 hg w12 hbox hb; have n0_ := Aside0.mk (blk_below (g := gb167) (o := .cells #[.int .u8 a0_0, .slice A0_1 l0_1.length c0_1] 69 (0, 0)) (by (with_reducible repeat (first | refine blk_drewN ?_ _ | refine blk_drew ?_ | refine blk_alloc ?_ _)); exact BK167.out) hb); have n1_ := Aside0.mk (below_step (by repeat (first | (with_reducible first | exact HB.out | apply below_alloc | apply pw_below_drewN | apply below_drew1 | refine below_set ?_ GE167.out) | exact HB.out)) hb); have n2_ := Aside0.mk (hbox); have n3_ := Aside0.mk ((by rw [hg]; exact (below_size (by repeat (first | (with_reducible first | exact HB.out | apply below_alloc | apply pw_below_drewN | apply below_drew1 | refine below_set ?_ GE167.out) | exact HB.out))) : w.heap.size ≤ gb168)); have n4_ := Aside0.mk ((by rw [hg]; exact (below_size (by repeat (first | (with_reducible first | exact HB.out | apply below_alloc | apply pw_below_drewN | apply below_drew1 | refine below_set ?_ GE167.out) | exact HB.out))) : w.heap.size ≤ gb168)); have n5_ := Aside0.mk ((by rw [hg]; exact Nat.ne_of_lt (blk_lt (g := gb167) (o := .cells #[.int .u8 a0_0, .slice A0_1 l0_1.length c0_1] 69 (0, 0)) (by (with_reducible repeat (first | refine blk_drewN ?_ _ | refine blk_drew ?_ | refine blk_alloc ?_ _)); exact BK167.out)) : gb167 ≠ gb168)); have n6_ := Aside0.mk ((by rw [hg]; exact Nat.ne_of_gt (blk_lt (g := gb167) (o := .cells #[.int .u8 a0_0, .slice A0_1 l0_1.length c0_1] 69 (0, 0)) (by (with_reducible repeat (first | refine blk_drewN ?_ _ | refine blk_drew ?_ | refine blk_alloc ?_ _)); exact BK167.out)) : gb168 ≠ gb167)); clear BK167; clear HB; have BK167 := n0_; have HB := n1_; have BK168 := n2_; have GW168 := n3_; have GE168 := n4_; have NB167_168 := n5_; have NB168_167 := n6_; clear n0_ n1_ n2_ n3_ n4_ n5_ n6_; clear hb hbox hg; have hnb13 := NB167_168.out; have hnc13 := NB168_167.out; have hcz14_0 : w12.cell? ⟨gb167, 0, none⟩ = some (.int .u8 a0_0) := (blk_cell BK167.out 0).trans rfl; have hcz14_1 : w12.cell? ⟨gb167, 1, none⟩ = some (.slice A0_1 l0_1.length c0_1) := (blk_cell BK167.out 1).trans rfl; have hfz14_0 := blk_frozen BK167.out 0; have hfz14_1 := blk_frozen BK167.out 1; have hcz15_0 : w12.cell? ⟨gb168, 0, none⟩ = some (.int .u8 a1_0) := (blk_cell BK168.out 0).trans rfl; have hcz15_1 : w12.cell? ⟨gb168, 1, none⟩ = some (.slice A1_1 l1_1.length c1_1) := (blk_cell BK168.out 1).trans rfl; have hfz15_0 := blk_frozen BK168.out 0; have hfz15_1 := blk_frozen BK168.out 1))
    go_ret
    exact ⟨by first | rfl | (simp [errW_none, errW_some] <;> rfl) | (simp [*, errW_none, errW_some] <;> rfl), by repeat (first | (with_reducible first | exact HB.out | apply below_alloc | apply pw_below_drewN | apply below_drew1 | refine below_set ?_ GE167.out | refine below_set ?_ GE168.out) | exact HB.out)⟩
end Go.Proofs.Ytalaochocmcbcaa.P
end
section
namespace Go.Proofs.Ytalaochocmcbcaa.Same
open Go.RowKit Go.Proofs.Ytalaochocmcbcaa.P Go.Proofs.Ytalaochocmcbcaa.E Go.Proofs.YtalaochocmcbcaaW.PrintWords Go.Proofs.YtalaochocmcbcaaW.PrintLast Go.Proofs.YtalaochocmcbcaaW.PrintMore
structure Msg where
  code : Int
  fail : Int
  addr : Int
  count : Int
  value : Int
  and_ : Int
  or_ : Int
  addr2 : Int
  sub : Int
  status : Int
  events : Int
  messages : Int
  words : List Int
  bits : List Bool
  data : List Int
  recs : List S67
  mei : Int
  kind : Int
  level : Int
  more : Int
  next : Int
  objects : List S69
def u8B (x : Int) : Bool := decide (0 ≤ x) && decide (x < 256)
def u16B (x : Int) : Bool := decide (0 ≤ x) && decide (x < 65536)
def listB {α : Type} (f : α → α → Bool) : List α → List α → Bool
  | [], [] => true
  | x :: xs, y :: ys => f x y && listB f xs ys
  | _, _ => false
def recB (a b : S67) : Bool := a.f0 == b.f0 && a.f1 == b.f1 && a.f2 == b.f2 && a.f3 == b.f3
def objB (a b : S69) : Bool := a.f0 == b.f0 && a.f1 == b.f1
def plainB (x y : Msg) : Bool := x.code == y.code && x.fail == y.fail && x.addr == y.addr && x.count == y.count && x.value == y.value && x.and_ == y.and_ && x.or_ == y.or_ && x.addr2 == y.addr2 && x.sub == y.sub && x.status == y.status && x.events == y.events && x.messages == y.messages && x.mei == y.mei && x.kind == y.kind && x.level == y.level && x.more == y.more && x.next == y.next
def sameB (x y : Msg) : Bool := plainB x y && x.words == y.words && x.bits == y.bits && x.data == y.data && listB recB x.recs y.recs && listB objB x.objects y.objects
def okM (x : Msg) : Bool := u8B x.code && u8B x.fail && u16B x.addr && u16B x.count && u16B x.value && u16B x.and_ && u16B x.or_ && u16B x.addr2 && u16B x.sub && u16B x.status && u16B x.events && u16B x.messages && u8B x.mei && u8B x.kind && u8B x.level && u8B x.more && u8B x.next && x.data.all u8B && x.objects.all fun q => q.f1.all u8B
theorem info46 : (Try.prog.info? 24).map (fun i => (i.zero, i.size, i.bytes)) = some (some (.int .u16 0), 1, 2) := by kernel_rfl
def shB (a b : Int) : Int := Go.bits .or .u16 (a * 256) b
theorem plain_any (m : Msg) (Am12 : Option Addr) (cm12 : Nat) (Am13 : Option Addr) (cm13 : Nat) (Am14 : Option Addr) (cm14 : Nat) (Am15 : Option Addr) (cm15 : Nat) (Am21 : Option Addr) (cm21 : Nat) (w : World) (h00 : 0 ≤ m.code) (h01 : m.code < 256) (h10 : 0 ≤ m.fail) (h11 : m.fail < 256) (h160 : 0 ≤ m.mei) (h161 : m.mei < 256) (h170 : 0 ≤ m.kind) (h171 : m.kind < 256) (h180 : 0 ≤ m.level) (h181 : m.level < 256) (h190 : 0 ≤ m.more) (h191 : m.more < 256) (h200 : 0 ≤ m.next) (h201 : m.next < 256) :
    Calls Try.prog 50 #[.agg #[.int .u8 m.code, .int .u8 m.fail, .int .u16 m.addr, .int .u16 m.count, .int .u16 m.value, .int .u16 m.and_, .int .u16 m.or_, .int .u16 m.addr2, .int .u16 m.sub, .int .u16 m.status, .int .u16 m.events, .int .u16 m.messages, .slice Am12 m.words.length cm12, .slice Am13 m.bits.length cm13, .slice Am14 m.data.length cm14, .slice Am15 m.recs.length cm15, .int .u8 m.mei, .int .u8 m.kind, .int .u8 m.level, .int .u8 m.more, .int .u8 m.next, .slice Am21 m.objects.length cm21]] w fun e w' => e = .returned (.agg #[.int .u16 m.code, .int .u16 m.fail, .int .u16 m.addr, .int .u16 m.count, .int .u16 m.value, .int .u16 m.and_, .int .u16 m.or_, .int .u16 m.addr2, .int .u16 m.sub, .int .u16 m.status, .int .u16 m.events, .int .u16 m.messages, .int .u16 (shB m.mei m.kind), .int .u16 (shB m.level m.more), .int .u16 m.next]) ∧ Below w.heap.size w w' := by
  have hu1 := Try.underlying30
  have hu2 := Try.underlying77
  unfold shB
  go_enter Try.func50, Try.ntmps50
  go_wp2
  exact bodyPost_ret (v := .agg #[.int .u16 m.code, .int .u16 m.fail, .int .u16 m.addr, .int .u16 m.count, .int .u16 m.value, .int .u16 m.and_, .int .u16 m.or_, .int .u16 m.addr2, .int .u16 m.sub, .int .u16 m.status, .int .u16 m.events, .int .u16 m.messages, .int .u16 (Go.bits .or .u16 (m.mei * 256) m.kind), .int .u16 (Go.bits .or .u16 (m.level * 256) m.more), .int .u16 m.next]) (by simp [results, Try.results50, go_sem]) rfl ⟨rfl, ((Below.refl _ _).alloc (Nat.le_refl _) _).alloc (by simp) _⟩
section
variable {P : Program} {w : World} {d c e i : Nat} {xs ys : Array Value} {is : List Nat} {a b : Value} {r s : Bool}
theorem eqi_cons (ha : (part e xs (i * c)).run P w = .ok a w) (hb : (part e ys (i * c)).run P w = .ok b w) (he : (Op.equalIn d e a b).run P w = .ok r w) (hr : (Op.eqItems d e c xs ys is).run P w = .ok s w) : (Op.eqItems d e c xs ys (i :: is)).run P w = .ok (r && s) w := by
  simp only [Op.eqItems, Sem.run_bind, ha, hb, he, Result.andThen_ok]
  cases r
  · simp
  · simpa using hr
theorem eqi_nil : (Op.eqItems d e c xs ys []).run P w = .ok true w := by simp [Op.eqItems]
end
theorem eq15 (d : Nat) (w : World) (x0 x1 x2 x3 x4 x5 x6 x7 x8 x9 x10 x11 x12 x13 x14 y0 y1 y2 y3 y4 y5 y6 y7 y8 y9 y10 y11 y12 y13 y14 : Int) : (Op.equalIn (d + 3) 77 (.agg #[.int .u16 x0, .int .u16 x1, .int .u16 x2, .int .u16 x3, .int .u16 x4, .int .u16 x5, .int .u16 x6, .int .u16 x7, .int .u16 x8, .int .u16 x9, .int .u16 x10, .int .u16 x11, .int .u16 x12, .int .u16 x13, .int .u16 x14]) (.agg #[.int .u16 y0, .int .u16 y1, .int .u16 y2, .int .u16 y3, .int .u16 y4, .int .u16 y5, .int .u16 y6, .int .u16 y7, .int .u16 y8, .int .u16 y9, .int .u16 y10, .int .u16 y11, .int .u16 y12, .int .u16 y13, .int .u16 y14])).run Try.prog w = .ok ([x0, x1, x2, x3, x4, x5, x6, x7, x8, x9, x10, x11, x12, x13, x14] == [y0, y1, y2, y3, y4, y5, y6, y7, y8, y9, y10, y11, y12, y13, y14]) w := by
  obtain ⟨i0, hi, _⟩ := info_parts info46
  rw [run_equalIn_array w (d + 2) _ _ Try.underlying77 hi, show List.range 15 = [0, 1, 2, 3, 4, 5, 6, 7, 8, 9, 10, 11, 12, 13, 14] from rfl, show Try.prog.cellsOf 24 = 1 by kernel_rfl]
  have hc : ([x0, x1, x2, x3, x4, x5, x6, x7, x8, x9, x10, x11, x12, x13, x14] == [y0, y1, y2, y3, y4, y5, y6, y7, y8, y9, y10, y11, y12, y13, y14]) = (x0 == y0 && (x1 == y1 && (x2 == y2 && (x3 == y3 && (x4 == y4 && (x5 == y5 && (x6 == y6 && (x7 == y7 && (x8 == y8 && (x9 == y9 && (x10 == y10 && (x11 == y11 && (x12 == y12 && (x13 == y13 && (x14 == y14 && (true)))))))))))))))) := by simp only [List.cons_beq_cons]; rfl
  rw [hc]
  refine eqi_cons (by go_simp; rfl) (by go_simp; rfl) (by go_simp) ?_
  refine eqi_cons (by go_simp; rfl) (by go_simp; rfl) (by go_simp) ?_
  refine eqi_cons (by go_simp; rfl) (by go_simp; rfl) (by go_simp) ?_
  refine eqi_cons (by go_simp; rfl) (by go_simp; rfl) (by go_simp) ?_
  refine eqi_cons (by go_simp; rfl) (by go_simp; rfl) (by go_simp) ?_
  refine eqi_cons (by go_simp; rfl) (by go_simp; rfl) (by go_simp) ?_
  refine eqi_cons (by go_simp; rfl) (by go_simp; rfl) (by go_simp) ?_
  refine eqi_cons (by go_simp; rfl) (by go_simp; rfl) (by go_simp) ?_
  refine eqi_cons (by go_simp; rfl) (by go_simp; rfl) (by go_simp) ?_
  refine eqi_cons (by go_simp; rfl) (by go_simp; rfl) (by go_simp) ?_
  refine eqi_cons (by go_simp; rfl) (by go_simp; rfl) (by go_simp) ?_
  refine eqi_cons (by go_simp; rfl) (by go_simp; rfl) (by go_simp) ?_
  refine eqi_cons (by go_simp; rfl) (by go_simp; rfl) (by go_simp) ?_
  refine eqi_cons (by go_simp; rfl) (by go_simp; rfl) (by go_simp) ?_
  refine eqi_cons (by go_simp; rfl) (by go_simp; rfl) (by go_simp) ?_
  exact eqi_nil
theorem slices_Equal_uint16_uint16_loop (l m : List Int) (hl : (l.length : Int) ≤ 9223372036854775807) (he : l.length = m.length) (d : Nat) : ∀ k i, i ≤ l.length → l.length - i = d → d < k → slices_Equal_uint16_uint16.l0 k l m l.length i = some (l.drop i == m.drop i) := by
  induction d with
  | zero =>
    intro k i h1 h2 hk
    obtain ⟨k, rfl⟩ : ∃ m, k = m + 1 := ⟨k - 1, by omega⟩
    have c : ¬ (i : Int) < (l.length : Int) := by omega
    simp only [slices_Equal_uint16_uint16.l0]
    rw [if_neg c, List.drop_eq_nil_of_le (by omega), List.drop_eq_nil_of_le (by omega)]; rfl
  | succ d ih =>
    intro k i h1 h2 hk
    obtain ⟨k, rfl⟩ : ∃ m, k = m + 1 := ⟨k - 1, by omega⟩
    have c1 : (i : Int) < (l.length : Int) := by omega
    have c2 : (0 : Int) ≤ (i : Int) := by omega
    have c3 : (i : Int) < (m.length : Int) := by omega
    have d3 : (i : Int) + 1 = ((i + 1 : Nat) : Int) := by omega
    have e3 : ((i + 1 : Nat) : Int) < 9223372036854775808 := by omega
    have e4 : -9223372036854775808 ≤ ((i + 1 : Nat) : Int) := by omega
    have hn := ih k (i + 1) (by omega) (by omega) (by omega)
    rw [drop_cons (show i < l.length by omega) 0, drop_cons (show i < m.length by omega) 0]
    simp only [slices_Equal_uint16_uint16.l0]
    rw [if_pos c1, if_pos c2, if_pos c1, if_pos c3, d3, wrap64_id e4 e3, hn]
    have hr : ∀ x : List Int, rd x (i : Int) = x.getD i 0 := fun x => by simp [rd]
    rw [hr, hr, List.cons_beq_cons]
    generalize l.getD i 0 = x
    generalize m.getD i 0 = y
    by_cases h : x = y
    · subst h; simp
    · simp [h]
theorem slices_Equal_uint16_uint16_ev (l m : List Int) (hl : l.length ≤ 9223372036854775807) : Ev (fun k => slices_Equal_uint16_uint16.f k l m) (l == m) := by
  refine Ev.of (slices_Equal_uint16_uint16.mono l m) (k := l.length + 1) ?_
  unfold slices_Equal_uint16_uint16.f
  by_cases he : l.length = m.length
  · have h := slices_Equal_uint16_uint16_loop l m (by omega) he l.length (l.length + 1) 0 (by omega) (by omega) (by omega)
    rw [Int.natCast_zero] at h
    rw [if_pos (by rw [he]), h]; rfl
  · rw [if_neg (fun h => he (by omega))]
    congr 1
    symm
    rw [beq_eq_false_iff_ne]
    exact fun h => he (by rw [h])
theorem slices_Equal_bool_bool_loop (l m : List Bool) (hl : (l.length : Int) ≤ 9223372036854775807) (he : l.length = m.length) (d : Nat) : ∀ k i, i ≤ l.length → l.length - i = d → d < k → slices_Equal_bool_bool.l0 k l m l.length i = some (l.drop i == m.drop i) := by
  induction d with
  | zero =>
    intro k i h1 h2 hk
    obtain ⟨k, rfl⟩ : ∃ m, k = m + 1 := ⟨k - 1, by omega⟩
    have c : ¬ (i : Int) < (l.length : Int) := by omega
    simp only [slices_Equal_bool_bool.l0]
    rw [if_neg c, List.drop_eq_nil_of_le (by omega), List.drop_eq_nil_of_le (by omega)]; rfl
  | succ d ih =>
    intro k i h1 h2 hk
    obtain ⟨k, rfl⟩ : ∃ m, k = m + 1 := ⟨k - 1, by omega⟩
    have c1 : (i : Int) < (l.length : Int) := by omega
    have c2 : (0 : Int) ≤ (i : Int) := by omega
    have c3 : (i : Int) < (m.length : Int) := by omega
    have d3 : (i : Int) + 1 = ((i + 1 : Nat) : Int) := by omega
    have e3 : ((i + 1 : Nat) : Int) < 9223372036854775808 := by omega
    have e4 : -9223372036854775808 ≤ ((i + 1 : Nat) : Int) := by omega
    have hn := ih k (i + 1) (by omega) (by omega) (by omega)
    rw [drop_cons (show i < l.length by omega) false, drop_cons (show i < m.length by omega) false]
    simp only [slices_Equal_bool_bool.l0]
    rw [if_pos c1, if_pos c2, if_pos c1, if_pos c3, d3, wrap64_id e4 e3, hn]
    have hr : ∀ x : List Bool, rdOf false x (i : Int) = x.getD i false := fun x => by simp [rdOf]
    rw [hr, hr, List.cons_beq_cons]
    generalize l.getD i false = x
    generalize m.getD i false = y
    cases x <;> cases y <;> simp
theorem slices_Equal_bool_bool_ev (l m : List Bool) (hl : l.length ≤ 9223372036854775807) : Ev (fun k => slices_Equal_bool_bool.f k l m) (l == m) := by
  refine Ev.of (slices_Equal_bool_bool.mono l m) (k := l.length + 1) ?_
  unfold slices_Equal_bool_bool.f
  by_cases he : l.length = m.length
  · have h := slices_Equal_bool_bool_loop l m (by omega) he l.length (l.length + 1) 0 (by omega) (by omega) (by omega)
    rw [Int.natCast_zero] at h
    rw [if_pos (by rw [he]), h]; rfl
  · rw [if_neg (fun h => he (by omega))]
    congr 1
    symm
    rw [beq_eq_false_iff_ne]
    exact fun h => he (by rw [h])
theorem rec_ev (a b : S67) (hl : a.f3.length ≤ 9223372036854775807) : Ev (fun k => code_rec.f k a.f0 a.f1 a.f2 a.f3 b.f0 b.f1 b.f2 b.f3) (recB a b) := by
  unfold code_rec.f recB
  by_cases h0 : a.f0 = b.f0
  · refine pos h0 ?_
    by_cases h1 : a.f1 = b.f1
    · refine pos h1 ?_
      by_cases h2 : a.f2 = b.f2
      · refine pos h2 (Ev.bind (slices_Equal_uint16_uint16_ev a.f3 b.f3 hl) (ret ?_))
        simp [h0, h1, h2]
      · exact neg h2 (ret (by simp [h2]))
    · exact neg h1 (ret (by simp [h1]))
  · exact neg h0 (ret (by simp [h0]))
theorem u8_bytes {l : List Int} (h : l.all u8B = true) : isBytes l := by
  intro x hx
  have := List.all_eq_true.1 h x hx
  simp only [u8B, Bool.and_eq_true, decide_eq_true_eq] at this
  exact this
theorem obj_ev (a b : S69) (ha : a.f1.all u8B = true) (hb : b.f1.all u8B = true) : code_object.f a.f0 a.f1 b.f0 b.f1 = some (objB a b) := by
  unfold code_object.f objB
  by_cases h0 : a.f0 = b.f0
  · rw [if_pos h0, str_beq (u8_bytes ha) (u8_bytes hb)]; simp [h0]
  · rw [if_neg h0]; simp [h0]
theorem listB_len {α : Type} {f : α → α → Bool} : ∀ l m : List α, listB f l m = true → l.length = m.length
  | [], [], _ => rfl
  | x :: xs, y :: ys, h => by
    simp only [listB, Bool.and_eq_true] at h
    simp only [List.length_cons]
    rw [listB_len xs ys h.2]
  | [], y :: ys, h => by cases h
  | x :: xs, [], h => by cases h
theorem recs_any (A B : Option Addr) (c d : Nat) (l m : List S67) (w : World) (hA : Kd.C k67 w A l.length l) (hB : Kd.C k67 w B m.length m)  :
    Calls Try.prog 53 #[.slice A l.length c, .slice B m.length d, .func (.func 54) #[] #[]] w fun e w' => e = .returned (.bool (listB recB l m)) ∧ Below w.heap.size w w' := by
  have hll : l.length ≤ 9223372036854775807 := hA.2.1
  have HA := Aside0.mk hA
  have HB := Aside0.mk hB
  clear hA hB
  have hu := Try.underlying67
  by_cases hlen : l.length = m.length
  · have hLM := Aside0.mk hlen
    have t1 : (l.length == m.length) = true := beq_iff_eq.2 hlen
    have t2 : (l.length != m.length) = false := by rw [hlen]; simp
    have t3 : ((l.length : Int) == (m.length : Int)) = true := beq_iff_eq.2 (by omega)
    have t4 : ((l.length : Int) != (m.length : Int)) = false := by rw [hlen]; simp
    clear hlen
    go_enter Try.func53, Try.ntmps53
    go_wp2
    go_loopw [17] (fun i wr => ∃ k : Nat, k ≤ l.length ∧ i = .int .i64 k ∧ Aside0 (listB recB l m = listB recB (l.drop k) (m.drop k)) ∧ Aside0 (Below w.heap.size w wr)) (fun i _ => l.length - (intOf i).toNat)
    case atStart => exact ⟨0, Nat.zero_le _, rfl, ⟨rfl⟩, ⟨Below.refl _ _⟩⟩
    case round =>
      obtain ⟨k, hk, rfl, HL, HW⟩ := hrel
      by_cases hlt : k < l.length
      · have hlt2 : k < m.length := by rw [← hLM.out]; exact hlt
        obtain ⟨adA, A3, cA3, rfl, x0, x1, x2, x3, gA, qA⟩ := at_T67 HA.out (k : Int) (by omega) (by omega)
        obtain ⟨adB, B3, cB3, rfl, y0, y1, y2, y3, gB, qB⟩ := at_T67 HB.out (k : Int) (by omega) (by omega)
        have px0 := (HW.out.cell (World.block_lt_of_cell? w _ x0)).trans x0
        rw [Int.toNat_natCast] at px0
        clear x0
        have px1 := (HW.out.cell (World.block_lt_of_cell? w _ x1)).trans x1
        rw [Int.toNat_natCast] at px1
        clear x1
        have px2 := (HW.out.cell (World.block_lt_of_cell? w _ x2)).trans x2
        rw [Int.toNat_natCast] at px2
        clear x2
        have px3 := (HW.out.cell (World.block_lt_of_cell? w _ x3)).trans x3
        rw [Int.toNat_natCast] at px3
        clear x3
        have py0 := (HW.out.cell (World.block_lt_of_cell? w _ y0)).trans y0
        rw [Int.toNat_natCast] at py0
        clear y0
        have ay0 := fun o : Obj => ((below_alloc (Below.refl _ wr) o).cell (World.block_lt_of_cell? wr _ py0)).trans py0
        clear py0
        have py1 := (HW.out.cell (World.block_lt_of_cell? w _ y1)).trans y1
        rw [Int.toNat_natCast] at py1
        clear y1
        have ay1 := fun o : Obj => ((below_alloc (Below.refl _ wr) o).cell (World.block_lt_of_cell? wr _ py1)).trans py1
        clear py1
        have py2 := (HW.out.cell (World.block_lt_of_cell? w _ y2)).trans y2
        rw [Int.toNat_natCast] at py2
        clear y2
        have ay2 := fun o : Obj => ((below_alloc (Below.refl _ wr) o).cell (World.block_lt_of_cell? wr _ py2)).trans py2
        clear py2
        have py3 := (HW.out.cell (World.block_lt_of_cell? w _ y3)).trans y3
        rw [Int.toNat_natCast] at py3
        clear y3
        have ay3 := fun o : Obj => ((below_alloc (Below.refl _ wr) o).cell (World.block_lt_of_cell? wr _ py3)).trans py3
        clear py3
        have hdrop : listB recB (l.drop k) (m.drop k) = (recB (rd_T67 l k) (rd_T67 m k) && listB recB (l.drop (k + 1)) (m.drop (k + 1))) := by
          rw [drop_cons hlt z67, drop_cons hlt2 z67]; rfl
        have HD := Aside0.mk hdrop
        clear hdrop
        have HX := Aside0.mk qA
        have HY := Aside0.mk qB
        clear qA qB
        obtain ⟨kk, hpure⟩ := (rec_ev (rd_T67 l k) (rd_T67 m k) (HX.out.2.1)).rounds
        cases hcmp : recB (rd_T67 l k) (rd_T67 m k) with
        | true =>
          have HC := Aside0.mk hcmp
          rw [hcmp] at hpure
          have HP := Aside0.mk hpure
          clear hcmp hpure
          go_wp2_with (go_at_call 54; (with_reducible refine (code_rec.calls kk _ _ _ _ _ (rd_T67 l k).f3 _ _ _ _ _ (rd_T67 m k).f3 true _ ?side1 ?side2 ?side3 ?side4 HP.out).mono ?_); (case side1 => repeat (first | exact (Kd.C_below HX.out HW.out) | (with_reducible refine Kd.C_alloc ?_ _) | (with_reducible refine Kd.C_drewN ?_ _) | (with_reducible refine Kd.C_drew ?_))); (case side2 => exact gA); (case side3 => repeat (first | exact (Kd.C_below HY.out HW.out) | (with_reducible refine Kd.C_alloc ?_ _) | (with_reducible refine Kd.C_drewN ?_ _) | (with_reducible refine Kd.C_drew ?_))); (case side4 => exact gB); rintro e w2 ⟨rfl, hb2⟩; have HB2 := Aside0.mk (below_step (by repeat (first | (with_reducible first | exact HW.out | apply below_alloc | apply pw_below_drewN | apply below_drew1) | exact HW.out)) hb2); clear hb2)
          go_roundw
          case rel => exact ⟨k + 1, by omega, by go_num, ⟨by rw [HL.out, HD.out, HC.out]; rfl⟩, ⟨HB2.out⟩⟩
          case measure => simp [intOf]; omega
        | false =>
          have HC := Aside0.mk hcmp
          rw [hcmp] at hpure
          have HP := Aside0.mk hpure
          clear hcmp hpure
          go_wp2_with (go_at_call 54; (with_reducible refine (code_rec.calls kk _ _ _ _ _ (rd_T67 l k).f3 _ _ _ _ _ (rd_T67 m k).f3 false _ ?side1 ?side2 ?side3 ?side4 HP.out).mono ?_); (case side1 => repeat (first | exact (Kd.C_below HX.out HW.out) | (with_reducible refine Kd.C_alloc ?_ _) | (with_reducible refine Kd.C_drewN ?_ _) | (with_reducible refine Kd.C_drew ?_))); (case side2 => exact gA); (case side3 => repeat (first | exact (Kd.C_below HY.out HW.out) | (with_reducible refine Kd.C_alloc ?_ _) | (with_reducible refine Kd.C_drewN ?_ _) | (with_reducible refine Kd.C_drew ?_))); (case side4 => exact gB); rintro e w2 ⟨rfl, hb2⟩; have HB2 := Aside0.mk (below_step (by repeat (first | (with_reducible first | exact HW.out | apply below_alloc | apply pw_below_drewN | apply below_drew1) | exact HW.out)) hb2); clear hb2)
          go_ret
          exact ⟨by rw [HL.out, HD.out, HC.out]; rfl, HB2.out⟩
      · go_wp2
        go_ret
        have e1 : l.drop k = [] := List.drop_eq_nil_of_le (by omega)
        have e2 : m.drop k = [] := List.drop_eq_nil_of_le (by have := hLM.out; omega)
        exact ⟨by rw [HL.out, e1, e2]; rfl, HW.out⟩
  · have t1 : (l.length == m.length) = false := beq_eq_false_iff_ne.2 hlen
    have t2 : (l.length != m.length) = true := bne_iff_ne.2 hlen
    have t3 : ((l.length : Int) == (m.length : Int)) = false := beq_eq_false_iff_ne.2 (by omega)
    have t4 : ((l.length : Int) != (m.length : Int)) = true := bne_iff_ne.2 (by omega)
    have hne : listB recB l m = false := Bool.eq_false_iff.2 fun h => hlen (listB_len _ _ h)
    have HN := Aside0.mk hne
    clear hne hlen
    go_enter Try.func53, Try.ntmps53
    go_wp2
    go_ret
    exact ⟨by rw [HN.out]; rfl, Below.refl _ _⟩
theorem objs_any (A B : Option Addr) (c d : Nat) (l m : List S69) (w : World) (hA : Kd.C k69 w A l.length l) (hB : Kd.C k69 w B m.length m) (hin : ∀ x ∈ l, x.f1.all u8B = true) (hin2 : ∀ x ∈ m, x.f1.all u8B = true) :
    Calls Try.prog 55 #[.slice A l.length c, .slice B m.length d, .func (.func 56) #[] #[]] w fun e w' => e = .returned (.bool (listB objB l m)) ∧ Below w.heap.size w w' := by
  have hll : l.length ≤ 9223372036854775807 := hA.2.1
  have HA := Aside0.mk hA
  have HB := Aside0.mk hB
  clear hA hB
  have hu := Try.underlying69
  by_cases hlen : l.length = m.length
  · have hLM := Aside0.mk hlen
    have t1 : (l.length == m.length) = true := beq_iff_eq.2 hlen
    have t2 : (l.length != m.length) = false := by rw [hlen]; simp
    have t3 : ((l.length : Int) == (m.length : Int)) = true := beq_iff_eq.2 (by omega)
    have t4 : ((l.length : Int) != (m.length : Int)) = false := by rw [hlen]; simp
    clear hlen
    go_enter Try.func55, Try.ntmps55
    go_wp2
    go_loopw [17] (fun i wr => ∃ k : Nat, k ≤ l.length ∧ i = .int .i64 k ∧ Aside0 (listB objB l m = listB objB (l.drop k) (m.drop k)) ∧ Aside0 (Below w.heap.size w wr)) (fun i _ => l.length - (intOf i).toNat)
    case atStart => exact ⟨0, Nat.zero_le _, rfl, ⟨rfl⟩, ⟨Below.refl _ _⟩⟩
    case round =>
      obtain ⟨k, hk, rfl, HL, HW⟩ := hrel
      by_cases hlt : k < l.length
      · have hlt2 : k < m.length := by rw [← hLM.out]; exact hlt
        obtain ⟨adA, A1, cA1, rfl, x0, x1, gA, qA⟩ := at_T69 HA.out (k : Int) (by omega) (by omega)
        obtain ⟨adB, B1, cB1, rfl, y0, y1, gB, qB⟩ := at_T69 HB.out (k : Int) (by omega) (by omega)
        have px0 := (HW.out.cell (World.block_lt_of_cell? w _ x0)).trans x0
        rw [Int.toNat_natCast] at px0
        clear x0
        have px1 := (HW.out.cell (World.block_lt_of_cell? w _ x1)).trans x1
        rw [Int.toNat_natCast] at px1
        clear x1
        have py0 := (HW.out.cell (World.block_lt_of_cell? w _ y0)).trans y0
        rw [Int.toNat_natCast] at py0
        clear y0
        have ay0 := fun o : Obj => ((below_alloc (Below.refl _ wr) o).cell (World.block_lt_of_cell? wr _ py0)).trans py0
        clear py0
        have py1 := (HW.out.cell (World.block_lt_of_cell? w _ y1)).trans y1
        rw [Int.toNat_natCast] at py1
        clear y1
        have ay1 := fun o : Obj => ((below_alloc (Below.refl _ wr) o).cell (World.block_lt_of_cell? wr _ py1)).trans py1
        clear py1
        have hdrop : listB objB (l.drop k) (m.drop k) = (objB (rd_T69 l k) (rd_T69 m k) && listB objB (l.drop (k + 1)) (m.drop (k + 1))) := by
          rw [drop_cons hlt z69, drop_cons hlt2 z69]; rfl
        have HD := Aside0.mk hdrop
        clear hdrop
        have HX := Aside0.mk qA
        have HY := Aside0.mk qB
        clear qA qB
        have hpure := obj_ev (rd_T69 l k) (rd_T69 m k) (by unfold rd_T69; rw [Int.toNat_natCast, List.getD_eq_getElem?_getD, List.getElem?_eq_getElem hlt]; exact hin _ (List.getElem_mem hlt)) (by unfold rd_T69; rw [Int.toNat_natCast, List.getD_eq_getElem?_getD, List.getElem?_eq_getElem hlt2]; exact hin2 _ (List.getElem_mem hlt2))
        cases hcmp : objB (rd_T69 l k) (rd_T69 m k) with
        | true =>
          have HC := Aside0.mk hcmp
          rw [hcmp] at hpure
          have HP := Aside0.mk hpure
          clear hcmp hpure
          go_wp2_with (go_at_call 56; (with_reducible refine (code_object.calls _ _ _ (rd_T69 l k).f1 _ _ _ (rd_T69 m k).f1 true _ ?side1 ?side2 ?side3 ?side4 HP.out).mono ?_); (case side1 => repeat (first | exact (Kd.C_below HX.out HW.out) | (with_reducible refine Kd.C_alloc ?_ _) | (with_reducible refine Kd.C_drewN ?_ _) | (with_reducible refine Kd.C_drew ?_))); (case side2 => exact gA); (case side3 => repeat (first | exact (Kd.C_below HY.out HW.out) | (with_reducible refine Kd.C_alloc ?_ _) | (with_reducible refine Kd.C_drewN ?_ _) | (with_reducible refine Kd.C_drew ?_))); (case side4 => exact gB); rintro e w2 ⟨rfl, hb2⟩; have HB2 := Aside0.mk (below_step (by repeat (first | (with_reducible first | exact HW.out | apply below_alloc | apply pw_below_drewN | apply below_drew1) | exact HW.out)) hb2); clear hb2)
          go_roundw
          case rel => exact ⟨k + 1, by omega, by go_num, ⟨by rw [HL.out, HD.out, HC.out]; rfl⟩, ⟨HB2.out⟩⟩
          case measure => simp [intOf]; omega
        | false =>
          have HC := Aside0.mk hcmp
          rw [hcmp] at hpure
          have HP := Aside0.mk hpure
          clear hcmp hpure
          go_wp2_with (go_at_call 56; (with_reducible refine (code_object.calls _ _ _ (rd_T69 l k).f1 _ _ _ (rd_T69 m k).f1 false _ ?side1 ?side2 ?side3 ?side4 HP.out).mono ?_); (case side1 => repeat (first | exact (Kd.C_below HX.out HW.out) | (with_reducible refine Kd.C_alloc ?_ _) | (with_reducible refine Kd.C_drewN ?_ _) | (with_reducible refine Kd.C_drew ?_))); (case side2 => exact gA); (case side3 => repeat (first | exact (Kd.C_below HY.out HW.out) | (with_reducible refine Kd.C_alloc ?_ _) | (with_reducible refine Kd.C_drewN ?_ _) | (with_reducible refine Kd.C_drew ?_))); (case side4 => exact gB); rintro e w2 ⟨rfl, hb2⟩; have HB2 := Aside0.mk (below_step (by repeat (first | (with_reducible first | exact HW.out | apply below_alloc | apply pw_below_drewN | apply below_drew1) | exact HW.out)) hb2); clear hb2)
          go_ret
          exact ⟨by rw [HL.out, HD.out, HC.out]; rfl, HB2.out⟩
      · go_wp2
        go_ret
        have e1 : l.drop k = [] := List.drop_eq_nil_of_le (by omega)
        have e2 : m.drop k = [] := List.drop_eq_nil_of_le (by have := hLM.out; omega)
        exact ⟨by rw [HL.out, e1, e2]; rfl, HW.out⟩
  · have t1 : (l.length == m.length) = false := beq_eq_false_iff_ne.2 hlen
    have t2 : (l.length != m.length) = true := bne_iff_ne.2 hlen
    have t3 : ((l.length : Int) == (m.length : Int)) = false := beq_eq_false_iff_ne.2 (by omega)
    have t4 : ((l.length : Int) != (m.length : Int)) = true := bne_iff_ne.2 (by omega)
    have hne : listB objB l m = false := Bool.eq_false_iff.2 fun h => hlen (listB_len _ _ h)
    have HN := Aside0.mk hne
    clear hne hlen
    go_enter Try.func55, Try.ntmps55
    go_wp2
    go_ret
    exact ⟨by rw [HN.out]; rfl, Below.refl _ _⟩
def eqL (a b : List Int) : Bool := a == b
theorem eqL15 (d : Nat) (w : World) (x0 x1 x2 x3 x4 x5 x6 x7 x8 x9 x10 x11 x12 x13 x14 y0 y1 y2 y3 y4 y5 y6 y7 y8 y9 y10 y11 y12 y13 y14 : Int) : (Op.equalIn (d + 3) 77 (.agg #[.int .u16 x0, .int .u16 x1, .int .u16 x2, .int .u16 x3, .int .u16 x4, .int .u16 x5, .int .u16 x6, .int .u16 x7, .int .u16 x8, .int .u16 x9, .int .u16 x10, .int .u16 x11, .int .u16 x12, .int .u16 x13, .int .u16 x14]) (.agg #[.int .u16 y0, .int .u16 y1, .int .u16 y2, .int .u16 y3, .int .u16 y4, .int .u16 y5, .int .u16 y6, .int .u16 y7, .int .u16 y8, .int .u16 y9, .int .u16 y10, .int .u16 y11, .int .u16 y12, .int .u16 y13, .int .u16 y14])).run Try.prog w = .ok (eqL [x0, x1, x2, x3, x4, x5, x6, x7, x8, x9, x10, x11, x12, x13, x14] [y0, y1, y2, y3, y4, y5, y6, y7, y8, y9, y10, y11, y12, y13, y14]) w := eq15 d w x0 x1 x2 x3 x4 x5 x6 x7 x8 x9 x10 x11 x12 x13 x14 y0 y1 y2 y3 y4 y5 y6 y7 y8 y9 y10 y11 y12 y13 y14
theorem sh_eq (a b : Int) (ha : 0 ≤ a ∧ a < 256) (hb : 0 ≤ b ∧ b < 256) : shB a b = a * 256 + b := by
  unfold shB
  exact bits_join .u16 16 (by decide) (fun n h0 h1 => by simp [IntKind.wrap, IntKind.bits, IntKind.signed]; omega) 8 (a * 256) b (by omega) (by omega) (by omega) hb.1 (by omega) (by omega)
theorem plain_eq (x y : Msg) (vx0 : 0 ≤ x.code ∧ x.code < 256) (vx1 : 0 ≤ x.fail ∧ x.fail < 256) (vx16 : 0 ≤ x.mei ∧ x.mei < 256) (vx17 : 0 ≤ x.kind ∧ x.kind < 256) (vx18 : 0 ≤ x.level ∧ x.level < 256) (vx19 : 0 ≤ x.more ∧ x.more < 256) (vx20 : 0 ≤ x.next ∧ x.next < 256) (vy0 : 0 ≤ y.code ∧ y.code < 256) (vy1 : 0 ≤ y.fail ∧ y.fail < 256) (vy16 : 0 ≤ y.mei ∧ y.mei < 256) (vy17 : 0 ≤ y.kind ∧ y.kind < 256) (vy18 : 0 ≤ y.level ∧ y.level < 256) (vy19 : 0 ≤ y.more ∧ y.more < 256) (vy20 : 0 ≤ y.next ∧ y.next < 256) : eqL [x.code, x.fail, x.addr, x.count, x.value, x.and_, x.or_, x.addr2, x.sub, x.status, x.events, x.messages, shB x.mei x.kind, shB x.level x.more, x.next] [y.code, y.fail, y.addr, y.count, y.value, y.and_, y.or_, y.addr2, y.sub, y.status, y.events, y.messages, shB y.mei y.kind, shB y.level y.more, y.next] = plainB x y := by
  unfold eqL plainB
  rw [sh_eq x.mei x.kind vx16 vx17, sh_eq x.level x.more vx18 vx19, sh_eq y.mei y.kind vy16 vy17, sh_eq y.level y.more vy18 vy19, Bool.eq_iff_iff]
  simp only [beq_iff_eq, List.cons.injEq, Bool.and_eq_true, and_true]
  constructor
  · intro h
    obtain ⟨a0, a1, a2, a3, a4, a5, a6, a7, a8, a9, a10, a11, a12, a13, a14⟩ := h
    refine ⟨⟨⟨⟨⟨⟨⟨⟨⟨⟨⟨⟨⟨⟨⟨⟨a0, a1⟩, a2⟩, a3⟩, a4⟩, a5⟩, a6⟩, a7⟩, a8⟩, a9⟩, a10⟩, a11⟩, ?_⟩, ?_⟩, ?_⟩, ?_⟩, a14⟩ <;> omega
  · rintro ⟨⟨⟨⟨⟨⟨⟨⟨⟨⟨⟨⟨⟨⟨⟨⟨a0, a1⟩, a2⟩, a3⟩, a4⟩, a5⟩, a6⟩, a7⟩, a8⟩, a9⟩, a10⟩, a11⟩, a12⟩, a13⟩, a14⟩, a15⟩, a16⟩
    refine ⟨a0, a1, a2, a3, a4, a5, a6, a7, a8, a9, a10, a11, ?_, ?_, a16⟩ <;> omega
theorem exec_load_row {P : Program} {ev : Operand → Value} {o : Oper} {w : World} (ty : TypeId) (x : Operand) (ho : o.op = .load ty x) (g : Nat) (hx : ev x = .pointer (some ⟨g, 0, none⟩)) (t : TypeId) (cs : Array Value) (fr : Nat × Nat) (d : TypeDesc)
    (hg : w.heap[g]? = some (.cells cs t fr)) (hu : P.underlying ty = some d) (hd : (match d with | .struct _ | .array _ _ => true | _ => false) = true) (hi : (P.info? ty).map (·.size) = some cs.size) : (execOp ev o).run P w = .ok (.value (.agg cs)) w := by
  unfold execOp
  simp only [ho, hx, Instr.loadAt, Instr.sureAddr, Sem.run_bind, Sem.run_pure, Result.andThen_ok, run_loadVar_row w g t ty cs fr d hg hu hd hi]
theorem heap_x (w : World) (cx cy : Array Value) (t : TypeId) : ((w.alloc (.cells cx t)).alloc (.cells cy t)).drew.heap[w.heap.size]? = some (.cells cx t (0, 0)) := by
  show (w.alloc (.cells cx t)|>.alloc (.cells cy t)).heap[w.heap.size]? = _
  have h := heap_alloc_new w (.cells cx t)
  rw [← h]
  exact (below_alloc (Below.refl _ (w.alloc (.cells cx t))) (.cells cy t)).block _ (by simp)
theorem heap_y (w : World) (cx cy : Array Value) (t : TypeId) : ((w.alloc (.cells cx t)).alloc (.cells cy t)).drew.heap[w.heap.size + 1]? = some (.cells cy t (0, 0)) := by
  show (w.alloc (.cells cx t)|>.alloc (.cells cy t)).heap[w.heap.size + 1]? = _
  have h := heap_alloc_new (w.alloc (.cells cx t)) (.cells cy t)
  rw [show (w.alloc (.cells cx t)).heap.size = w.heap.size + 1 by simp] at h
  exact h
end Go.Proofs.Ytalaochocmcbcaa.Same
end
section
namespace Go.Proofs.Ytalaochocmcbcaa.Same
open Go.RowKit Go.Proofs.Ytalaochocmcbcaa.P Go.Proofs.Ytalaochocmcbcaa.E Go.Proofs.YtalaochocmcbcaaW.PrintWords Go.Proofs.YtalaochocmcbcaaW.PrintLast Go.Proofs.YtalaochocmcbcaaW.PrintMore
def goodRec (r : S67) : Prop := (0 ≤ r.f0 ∧ r.f0 < 65536) ∧ (0 ≤ r.f1 ∧ r.f1 < 65536) ∧ (0 ≤ r.f2 ∧ r.f2 < 65536) ∧ ∀ x ∈ r.f3, 0 ≤ x ∧ x < 65536
def goodM (m : Msg) : Prop := okM m = true ∧ (∀ x ∈ m.words, 0 ≤ x ∧ x < 65536) ∧ (∀ r ∈ m.recs, goodRec r) ∧ ∀ o ∈ m.objects, 0 ≤ o.f0 ∧ o.f0 < 256
def IsMsg (w : World) (cx : Array Value) (m : Msg) : Prop :=
  ∃ (A12 : Option Addr) (c12 : Nat) (A13 : Option Addr) (c13 : Nat) (A14 : Option Addr) (c14 : Nat) (A15 : Option Addr) (c15 : Nat) (A21 : Option Addr) (c21 : Nat), cx = #[.int .u8 m.code, .int .u8 m.fail, .int .u16 m.addr, .int .u16 m.count, .int .u16 m.value, .int .u16 m.and_, .int .u16 m.or_, .int .u16 m.addr2, .int .u16 m.sub, .int .u16 m.status, .int .u16 m.events, .int .u16 m.messages, .slice A12 m.words.length c12, .slice A13 m.bits.length c13, .slice A14 m.data.length c14, .slice A15 m.recs.length c15, .int .u8 m.mei, .int .u8 m.kind, .int .u8 m.level, .int .u8 m.more, .int .u8 m.next, .slice A21 m.objects.length c21] ∧ goodM m ∧ (Kd.C (Kd.int .u16) w A12 m.words.length m.words ∧ m.words.length ≤ c12) ∧ (Kd.C Kd.bool w A13 m.bits.length m.bits ∧ m.bits.length ≤ c13) ∧ (Kd.C (Kd.int .u8) w A14 m.data.length m.data ∧ m.data.length ≤ c14) ∧ (Kd.C k67 w A15 m.recs.length m.recs ∧ m.recs.length ≤ c15) ∧ (Kd.C k69 w A21 m.objects.length m.objects ∧ m.objects.length ≤ c21)
theorem IsMsg.on {w w' : World} {cx : Array Value} {m : Msg} (h : IsMsg w cx m) (hb : Below w.heap.size w w') : IsMsg w' cx m := by
  obtain ⟨A12, c12, A13, c13, A14, c14, A15, c15, A21, c21, rfl, ok, ⟨hr12, hc12⟩, ⟨hr13, hc13⟩, ⟨hr14, hc14⟩, ⟨hr15, hc15⟩, ⟨hr21, hc21⟩⟩ := h
  exact ⟨A12, c12, A13, c13, A14, c14, A15, c15, A21, c21, rfl, ok, ⟨Kd.C_below hr12 hb, hc12⟩, ⟨Kd.C_below hr13 hb, hc13⟩, ⟨Kd.C_below hr14 hb, hc14⟩, ⟨Kd.C_below hr15 hb, hc15⟩, ⟨Kd.C_below hr21 hb, hc21⟩⟩
theorem IsMsg.size {w : World} {cx : Array Value} {m : Msg} (h : IsMsg w cx m) : cx.size = 22 := by
  obtain ⟨A12, c12, A13, c13, A14, c14, A15, c15, A21, c21, rfl, ok, ⟨hr12, hc12⟩, ⟨hr13, hc13⟩, ⟨hr14, hc14⟩, ⟨hr15, hc15⟩, ⟨hr21, hc21⟩⟩ := h
  rfl
theorem IsMsg.one {w : World} {cx : Array Value} {m : Msg} (h : IsMsg w cx m) : cx.all (·.oneCell') = true := by
  obtain ⟨A12, c12, A13, c13, A14, c14, A15, c15, A21, c21, rfl, ok, ⟨hr12, hc12⟩, ⟨hr13, hc13⟩, ⟨hr14, hc14⟩, ⟨hr15, hc15⟩, ⟨hr21, hc21⟩⟩ := h
  simp [Value.oneCell']
theorem IsMsg.good {w : World} {cx : Array Value} {m : Msg} (h : IsMsg w cx m) : goodM m := by
  obtain ⟨A12, c12, A13, c13, A14, c14, A15, c15, A21, c21, rfl, ok, ⟨hr12, hc12⟩, ⟨hr13, hc13⟩, ⟨hr14, hc14⟩, ⟨hr15, hc15⟩, ⟨hr21, hc21⟩⟩ := h
  exact ok
theorem msg_info {cx : Array Value} (h : cx.size = 22) : (Try.prog.info? 30).map (·.size) = some cx.size := by rw [h]; kernel_rfl
def celled (cx : Array Value) (i : Nat) (v : Value) : Prop := cx[i]? = some v
theorem IsMsg.celled {w : World} {cx : Array Value} {m : Msg} (h : IsMsg w cx m) : Same.celled cx 0 (.int .u8 m.code) ∧ Same.celled cx 1 (.int .u8 m.fail) ∧ Same.celled cx 2 (.int .u16 m.addr) ∧ Same.celled cx 3 (.int .u16 m.count) ∧ Same.celled cx 4 (.int .u16 m.value) ∧ Same.celled cx 5 (.int .u16 m.and_) ∧ Same.celled cx 6 (.int .u16 m.or_) ∧ Same.celled cx 7 (.int .u16 m.addr2) ∧ Same.celled cx 8 (.int .u16 m.sub) ∧ Same.celled cx 9 (.int .u16 m.status) ∧ Same.celled cx 10 (.int .u16 m.events) ∧ Same.celled cx 11 (.int .u16 m.messages) ∧ Same.celled cx 16 (.int .u8 m.mei) ∧ Same.celled cx 17 (.int .u8 m.kind) ∧ Same.celled cx 18 (.int .u8 m.level) ∧ Same.celled cx 19 (.int .u8 m.more) ∧ Same.celled cx 20 (.int .u8 m.next) := by
  obtain ⟨A12, c12, A13, c13, A14, c14, A15, c15, A21, c21, rfl, ok, ⟨hr12, hc12⟩, ⟨hr13, hc13⟩, ⟨hr14, hc14⟩, ⟨hr15, hc15⟩, ⟨hr21, hc21⟩⟩ := h
  exact ⟨rfl, rfl, rfl, rfl, rfl, rfl, rfl, rfl, rfl, rfl, rfl, rfl, rfl, rfl, rfl, rfl, rfl⟩
section
variable {w W : World} {g : Nat} {cx : Array Value} {t : TypeId} {m : Msg} (hb : w.heap[g]? = some (.cells cx t (0, 0))) (h : IsMsg W cx m)
include hb h
theorem bx_code : w.cell? ⟨g, 0, none⟩ = some (.int .u8 m.code) := (blk_cell hb 0).trans h.celled.1
theorem bx_fail : w.cell? ⟨g, 1, none⟩ = some (.int .u8 m.fail) := (blk_cell hb 1).trans h.celled.2.1
theorem bx_addr : w.cell? ⟨g, 2, none⟩ = some (.int .u16 m.addr) := (blk_cell hb 2).trans h.celled.2.2.1
theorem bx_count : w.cell? ⟨g, 3, none⟩ = some (.int .u16 m.count) := (blk_cell hb 3).trans h.celled.2.2.2.1
theorem bx_value : w.cell? ⟨g, 4, none⟩ = some (.int .u16 m.value) := (blk_cell hb 4).trans h.celled.2.2.2.2.1
theorem bx_and : w.cell? ⟨g, 5, none⟩ = some (.int .u16 m.and_) := (blk_cell hb 5).trans h.celled.2.2.2.2.2.1
theorem bx_or : w.cell? ⟨g, 6, none⟩ = some (.int .u16 m.or_) := (blk_cell hb 6).trans h.celled.2.2.2.2.2.2.1
theorem bx_addr2 : w.cell? ⟨g, 7, none⟩ = some (.int .u16 m.addr2) := (blk_cell hb 7).trans h.celled.2.2.2.2.2.2.2.1
theorem bx_sub : w.cell? ⟨g, 8, none⟩ = some (.int .u16 m.sub) := (blk_cell hb 8).trans h.celled.2.2.2.2.2.2.2.2.1
theorem bx_status : w.cell? ⟨g, 9, none⟩ = some (.int .u16 m.status) := (blk_cell hb 9).trans h.celled.2.2.2.2.2.2.2.2.2.1
theorem bx_events : w.cell? ⟨g, 10, none⟩ = some (.int .u16 m.events) := (blk_cell hb 10).trans h.celled.2.2.2.2.2.2.2.2.2.2.1
theorem bx_messages : w.cell? ⟨g, 11, none⟩ = some (.int .u16 m.messages) := (blk_cell hb 11).trans h.celled.2.2.2.2.2.2.2.2.2.2.2.1
theorem bx_mei : w.cell? ⟨g, 16, none⟩ = some (.int .u8 m.mei) := (blk_cell hb 16).trans h.celled.2.2.2.2.2.2.2.2.2.2.2.2.1
theorem bx_kind : w.cell? ⟨g, 17, none⟩ = some (.int .u8 m.kind) := (blk_cell hb 17).trans h.celled.2.2.2.2.2.2.2.2.2.2.2.2.2.1
theorem bx_level : w.cell? ⟨g, 18, none⟩ = some (.int .u8 m.level) := (blk_cell hb 18).trans h.celled.2.2.2.2.2.2.2.2.2.2.2.2.2.2.1
theorem bx_more : w.cell? ⟨g, 19, none⟩ = some (.int .u8 m.more) := (blk_cell hb 19).trans h.celled.2.2.2.2.2.2.2.2.2.2.2.2.2.2.2.1
theorem bx_next : w.cell? ⟨g, 20, none⟩ = some (.int .u8 m.next) := (blk_cell hb 20).trans h.celled.2.2.2.2.2.2.2.2.2.2.2.2.2.2.2.2
end
theorem goodM_num {m : Msg} (h : goodM m) : ((0 ≤ m.code ∧ m.code < 256) ∧ (0 ≤ m.fail ∧ m.fail < 256) ∧ (0 ≤ m.addr ∧ m.addr < 65536) ∧ (0 ≤ m.count ∧ m.count < 65536) ∧ (0 ≤ m.value ∧ m.value < 65536) ∧ (0 ≤ m.and_ ∧ m.and_ < 65536) ∧ (0 ≤ m.or_ ∧ m.or_ < 65536) ∧ (0 ≤ m.addr2 ∧ m.addr2 < 65536) ∧ (0 ≤ m.sub ∧ m.sub < 65536) ∧ (0 ≤ m.status ∧ m.status < 65536) ∧ (0 ≤ m.events ∧ m.events < 65536) ∧ (0 ≤ m.messages ∧ m.messages < 65536) ∧ (0 ≤ m.mei ∧ m.mei < 256) ∧ (0 ≤ m.kind ∧ m.kind < 256) ∧ (0 ≤ m.level ∧ m.level < 256) ∧ (0 ≤ m.more ∧ m.more < 256) ∧ (0 ≤ m.next ∧ m.next < 256)) ∧ isBytes m.data ∧ (∀ o ∈ m.objects, isBytes o.f1) := by
  obtain ⟨h1, _⟩ := h
  simp only [okM, u8B, u16B, Bool.and_eq_true, decide_eq_true_eq, List.all_eq_true] at h1
  obtain ⟨⟨⟨⟨⟨⟨⟨⟨⟨⟨⟨⟨⟨⟨⟨⟨⟨⟨a0, a1⟩, a2⟩, a3⟩, a4⟩, a5⟩, a6⟩, a7⟩, a8⟩, a9⟩, a10⟩, a11⟩, a16⟩, a17⟩, a18⟩, a19⟩, a20⟩, a14⟩, a21⟩ := h1
  exact ⟨⟨a0, a1, a2, a3, a4, a5, a6, a7, a8, a9, a10, a11, a16, a17, a18, a19, a20⟩, a14, fun o ho x hx => a21 o ho x hx⟩
theorem IsMsg.lists {w : World} {cx : Array Value} {m : Msg} (h : IsMsg w cx m) : ∃ (A12 : Option Addr) (c12 : Nat) (A13 : Option Addr) (c13 : Nat) (A14 : Option Addr) (c14 : Nat) (A15 : Option Addr) (c15 : Nat) (A21 : Option Addr) (c21 : Nat),
    (Same.celled cx 12 (.slice A12 m.words.length c12) ∧ Same.celled cx 13 (.slice A13 m.bits.length c13) ∧ Same.celled cx 14 (.slice A14 m.data.length c14) ∧ Same.celled cx 15 (.slice A15 m.recs.length c15) ∧ Same.celled cx 21 (.slice A21 m.objects.length c21)) ∧ (Kd.C (Kd.int .u16) w A12 m.words.length m.words ∧ m.words.length ≤ c12) ∧ (Kd.C Kd.bool w A13 m.bits.length m.bits ∧ m.bits.length ≤ c13) ∧ (Kd.C (Kd.int .u8) w A14 m.data.length m.data ∧ m.data.length ≤ c14) ∧ (Kd.C k67 w A15 m.recs.length m.recs ∧ m.recs.length ≤ c15) ∧ (Kd.C k69 w A21 m.objects.length m.objects ∧ m.objects.length ≤ c21) := by
  obtain ⟨A12, c12, A13, c13, A14, c14, A15, c15, A21, c21, rfl, ok, h12, h13, h14, h15, h21⟩ := h
  exact ⟨A12, c12, A13, c13, A14, c14, A15, c15, A21, c21, ⟨rfl, rfl, rfl, rfl, rfl⟩, h12, h13, h14, h15, h21⟩
end Go.Proofs.Ytalaochocmcbcaa.Same
end
section
namespace Go.Proofs.Ytalaochocmcbcaa.Same
open Go.RowKit Go.Proofs.Ytalaochocmcbcaa.P Go.Proofs.Ytalaochocmcbcaa.E Go.Proofs.YtalaochocmcbcaaW.PrintWords Go.Proofs.YtalaochocmcbcaaW.PrintLast Go.Proofs.YtalaochocmcbcaaW.PrintMore
section
variable {P : Program} {md : Region.Mode} {ops : Array Oper} {Q : Exit → Act → World → Prop} {S : World → Prop} {ds : List Nat}
theorem gtake_ {i : Nat} {N : Option Tmp} {oi : Oper} {V : Value} {B : Bool} {fuel : Nat} {l : Array Bool} {a : Act} {w : World} (l' : Array Bool) (hi : ops[i]? = some oi) (hN : oi.dst = N) (hc : takeB md ops ds l l' i = true)
    (hQ : ∀ v c a w, Q (.panic c) (a.put oi.dst v) w → Q (.panic c) a w) (hS : S w) (hy : ∃ u, (B = true → u = V) ∧ YieldsIf P ops S oi u a)
    (h : ∀ u, (B = true → u = V) → wpAnyLast P md ops Q S ds fuel l' (a.put N u) w) : wpAnyLast P md ops Q S ds (fuel + 1) l a w := by
  obtain ⟨u, hu, hy⟩ := hy
  exact take_ l' hi hN hc (hQ u) hy hS rfl (h u hu)
theorem gpure_ {i : Nat} {N : Option Tmp} {oi : Oper} {V : Value} {B : Bool} {fuel : Nat} {l : Array Bool} {a : Act} {w : World} (l' : Array Bool) (hi : ops[i]? = some oi) (hN : oi.dst = N) (hc : anyB md ops l l' i = true)
    (hQ : ∀ v c a w, Q (.panic c) (a.put oi.dst v) w → Q (.panic c) a w) (hy : ∃ u, (B = true → u = V) ∧ Yields P ops oi u a)
    (h : ∀ u, (B = true → u = V) → wpAnyLast P md ops Q S ds fuel l' (a.put N u) w) : wpAnyLast P md ops Q S ds (fuel + 1) l a w := by
  obtain ⟨u, hu, hy⟩ := hy
  exact pure_ l' hi hN hc (hQ u) hy rfl (h u hu)
theorem gone_ {i : Nat} {N : Option Tmp} {oi : Oper} {V : Value} {B : Bool} {fuel : Nat} {l : Array Bool} {a : Act} {w : World} (l' : Array Bool) (hi : ops[i]? = some oi) (hN : oi.dst = N) (hc : readyB md ops l l' i = true) (hd : i ∉ ds)
    (h1 : ∀ K : Act → World → Prop, (∀ u w', S w' → (B = true → u = V) → K (a.put N u) w') → if Region.wanted oi (yielded ops a.tmps) = true then Oper.wp P oi a w K Q else K (a.put N undef) w)
    (h : ∀ u w', S w' → (B = true → u = V) → wpAnyLast P md ops Q S ds fuel l' (a.put N u) w') : wpAnyLast P md ops Q S ds (fuel + 1) l a w :=
  one_ l' hi hN hc hd fun K hK => h1 K fun u w' hS hT => hK.out _ _ hS fun _ => h u w' hS hT
end
end Go.Proofs.Ytalaochocmcbcaa.Same
end
section
namespace Go.Proofs.Ytalaochocmcbcaa.Same
open Go.RowKit Go.Proofs.Ytalaochocmcbcaa.P Go.Proofs.Ytalaochocmcbcaa.E Go.Proofs.YtalaochocmcbcaaW.PrintWords Go.Proofs.YtalaochocmcbcaaW.PrintLast Go.Proofs.YtalaochocmcbcaaW.PrintMore
def bm (n m : Nat) : Array Bool := ⟨(List.range n).map fun i => m.testBit i⟩
def same.T1 : Bool × List (List Nat × List Nat) := (true, [([], []), ([0], [0]), ([], []), ([2, 1], [2]), ([1, 3], [1, 3]), ([4, 3], [4]), ([5], [5]), ([6, 5], [5, 6]), ([5], [5]), ([8, 5], [5, 8]), ([7, 9, 5, 5], [5, 7, 9]), ([5, 10], [5, 10]), ([11, 10], [11]), ([12], [12]), ([13, 12], [12, 13]), ([12], [12]), ([15, 12], [12, 15]), ([14, 16, 12, 12], [12, 14, 16]), ([12, 17], [12, 17]), ([18, 17], [18]), ([19], [19]), ([20, 19], [19, 20]), ([21, 19], [19, 21]), ([19], [19]), ([23, 19], [19, 23]), ([24, 19], [19, 24]), ([22, 25, 19], [19, 22, 25]), ([19, 26], [19, 26]), ([27, 19], [27]), ([28], [28]), ([29, 28], [28, 29]), ([28], [28]), ([31, 28], [28, 31]), ([30, 32, 28, 28], [28, 30, 32]), ([28, 33], [28, 33]), ([34, 33], [34]), ([35], [35]), ([36, 35], [35, 36]), ([35], [35]), ([38, 35], [35, 38]), ([37, 39, 35, 35], [35, 37, 39]), ([35, 40], [35, 40]), ([41, 40, 0, 1, 2, 3, 4, 5, 6, 7, 8, 9, 10, 11, 12, 13, 14, 15, 16, 17, 18, 19, 20, 21, 22, 23, 24, 25, 26, 27, 28, 29, 30, 31, 32, 33, 34, 35, 36, 37, 38, 39, 40, 41], [41])])
def same.B1 : List Nat := [0, 1, 0, 7, 15, 31, 63, 127, 63, 319, 1023, 2047, 4095, 8191, 16383, 8191, 40959, 131071, 262143, 524287, 1048575, 2097151, 4194303, 1048575, 9437183, 26214399, 67108863, 134217727, 268435455, 536870911, 1073741823, 536870911, 2684354559, 8589934591, 17179869183, 34359738367, 68719476735, 137438953471, 68719476735, 343597383679, 1099511627775, 2199023255551, 4398046511103]
theorem same.tab1 : rtab .any (opsOf Try.f36 1) = same.T1 := by kernel_rfl
theorem same.bits1 : waitsOk same.T1.2 same.B1 = true := by kernel_rfl
def plainC (m : Msg) : Array Value := #[.int .u16 m.code, .int .u16 m.fail, .int .u16 m.addr, .int .u16 m.count, .int .u16 m.value, .int .u16 m.and_, .int .u16 m.or_, .int .u16 m.addr2, .int .u16 m.sub, .int .u16 m.status, .int .u16 m.events, .int .u16 m.messages, .int .u16 (shB m.mei m.kind), .int .u16 (shB m.level m.more), .int .u16 m.next]
theorem plain_msg {cx : Array Value} {m : Msg} {w : World} (hm : IsMsg w cx m) : Calls Try.prog 50 #[.agg cx] w fun e w' => e = .returned (.agg (plainC m)) ∧ Below w.heap.size w w' := by
  obtain ⟨⟨a0, a1, _, _, _, _, _, _, _, _, _, _, a16, a17, a18, a19, a20⟩, _⟩ := goodM_num hm.good
  obtain ⟨A12, c12, A13, c13, A14, c14, A15, c15, A21, c21, rfl, ok, h12, h13, h14, h15, h21⟩ := hm
  exact plain_any m A12 c12 A13 c13 A14 c14 A15 c15 A21 c21 w a0.1 a0.2 a1.1 a1.2 a16.1 a16.2 a17.1 a17.2 a18.1 a18.2 a19.1 a19.2 a20.1 a20.2
theorem plain_eqs {x y : Msg} (gx : goodM x) (gy : goodM y) (d : Nat) (w : World) : (Op.equalIn (d + 3) 77 (.agg (plainC x)) (.agg (plainC y))).run Try.prog w = .ok (plainB x y) w := by
  obtain ⟨⟨a0, a1, _, _, _, _, _, _, _, _, _, _, a16, a17, a18, a19, a20⟩, _⟩ := goodM_num gx
  obtain ⟨⟨b0, b1, _, _, _, _, _, _, _, _, _, _, b16, b17, b18, b19, b20⟩, _⟩ := goodM_num gy
  rw [← plain_eq x y a0 a1 a16 a17 a18 a19 a20 b0 b1 b16 b17 b18 b19 b20]
  exact eqL15 d w _ _ _ _ _ _ _ _ _ _ _ _ _ _ _ _ _ _ _ _ _ _ _ _ _ _ _ _ _ _
theorem eqw_c {l m : List Int} {A B : Option Addr} {c d : Nat} {W : World} (rl : Kd.C (Kd.int .u16) W A l.length l) (zl : l.length ≤ c) (rm : Kd.C (Kd.int .u16) W B m.length m) (zm : m.length ≤ d) :
    Calls Try.prog 51 #[.slice A l.length c, .slice B m.length d] W fun e w' => e = .returned (.bool (l == m)) ∧ Below W.heap.size W w' := by
  obtain ⟨k, hk⟩ := (slices_Equal_uint16_uint16_ev l m rl.2.1).rounds
  refine (slices_Equal_uint16_uint16.calls k A c l B d m _ W rl zl rm zm hk).mono ?_
  rintro e w' ⟨rfl, n, rfl⟩
  exact ⟨rfl, pw_below_drewN (Below.refl _ _) _⟩
theorem eqb_c {l m : List Bool} {A B : Option Addr} {c d : Nat} {W : World} (rl : Kd.C Kd.bool W A l.length l) (zl : l.length ≤ c) (rm : Kd.C Kd.bool W B m.length m) (zm : m.length ≤ d) :
    Calls Try.prog 52 #[.slice A l.length c, .slice B m.length d] W fun e w' => e = .returned (.bool (l == m)) ∧ Below W.heap.size W w' := by
  obtain ⟨k, hk⟩ := (slices_Equal_bool_bool_ev l m rl.2.1).rounds
  refine (slices_Equal_bool_bool.calls k A c l B d m _ W rl zl rm zm hk).mono ?_
  rintro e w' ⟨rfl, n, rfl⟩
  exact ⟨rfl, pw_below_drewN (Below.refl _ _) _⟩
theorem same_msg {cx cy : Array Value} {x y : Msg} {w : World} (hx : IsMsg w cx x) (hy : IsMsg w cy y) : Calls Try.prog 36 #[.agg cx, .agg cy] w fun e w' => e = .returned (.bool (sameB x y)) ∧ Below w.heap.size w w' := by
  obtain ⟨Ax12, cx12, Ax13, cx13, Ax14, cx14, Ax15, cx15, Ax21, cx21, ⟨l12, l13, l14, l15, l21⟩, r12, r13, r14, r15, r21⟩ := hx.lists
  have LX12 := Aside0.mk l12
  have RX12 := Aside0.mk r12
  have LX13 := Aside0.mk l13
  have RX13 := Aside0.mk r13
  have LX14 := Aside0.mk l14
  have RX14 := Aside0.mk r14
  have LX15 := Aside0.mk l15
  have RX15 := Aside0.mk r15
  have LX21 := Aside0.mk l21
  have RX21 := Aside0.mk r21
  clear l12 l13 l14 l15 l21 r12 r13 r14 r15 r21
  have MX := Aside0.mk hx
  have szx := hx.size
  have GX := Aside0.mk hx.good
  have OX := Aside0.mk (fun q hq => List.all_eq_true.2 (fun z hz => by have := (goodM_num hx.good).2.2 q hq z hz; unfold u8B; simp only [Bool.and_eq_true, decide_eq_true_eq]; omega) : ∀ q ∈ x.objects, q.f1.all u8B = true)
  obtain ⟨Ay12, cy12, Ay13, cy13, Ay14, cy14, Ay15, cy15, Ay21, cy21, ⟨l12, l13, l14, l15, l21⟩, r12, r13, r14, r15, r21⟩ := hy.lists
  have LY12 := Aside0.mk l12
  have RY12 := Aside0.mk r12
  have LY13 := Aside0.mk l13
  have RY13 := Aside0.mk r13
  have LY14 := Aside0.mk l14
  have RY14 := Aside0.mk r14
  have LY15 := Aside0.mk l15
  have RY15 := Aside0.mk r15
  have LY21 := Aside0.mk l21
  have RY21 := Aside0.mk r21
  clear l12 l13 l14 l15 l21 r12 r13 r14 r15 r21
  have MY := Aside0.mk hy
  have szy := hy.size
  have GY := Aside0.mk hy.good
  have OY := Aside0.mk (fun q hq => List.all_eq_true.2 (fun z hz => by have := (goodM_num hy.good).2.2 q hq z hz; unfold u8B; simp only [Bool.and_eq_true, decide_eq_true_eq]; omega) : ∀ q ∈ y.objects, q.f1.all u8B = true)
  have HPE := Aside0.mk (fun d W => plain_eqs GX.out GY.out d W)
  have DEQ := Aside0.mk (str_beq (goodM_num GX.out).2.1 (goodM_num GY.out).2.1)
  clear hx hy
  unfold sameB
  generalize plainB x y = b0 at HPE ⊢
  have hu1 := Try.underlying30
  go_enter Try.func36, Try.ntmps36
  go_upto_region 1 with (fail)
  refine start_ (n := 43) (S := fun w' => w'.heap[w.heap.size]? = some (.cells cx 30 (0, 0)) ∧ w'.heap[w.heap.size + 1]? = some (.cells cy 30 (0, 0)) ∧ Aside0 (Below w.heap.size w w')) (ds := []) (bm 43 0) (by as_aux_lemma => kernel_rfl) rfl (by as_aux_lemma => kernel_rfl) ⟨heap_x w cx cy 30, heap_y w cx cy 30, Aside0.mk (((Below.refl _ _).alloc (Nat.le_refl _) _).alloc (by simp) _).drew⟩ (fun hHeld => ?_)
  generalize World.drew _ = wd at hHeld ⊢
  refine with_tabW same.tab1 same.bits1 (fun HT_ HW_ => ?_)
  refine take_ (i := 0) (N := some 5) (v := ?_) (a' := ?_) (bm 43 1) rfl rfl (take_ofW HT_.out HW_.out (by as_aux_lemma => kernel_rfl)) (fun _ _ _ h => h) (Or.inl ⟨by rfl, ?_⟩) hHeld ?_ ?_
  rotate_left
  · rintro w' ⟨s0, s1, s2⟩
    refine exec_load_row 30 (.tmp 2) ?ha_0 (w.heap.size) ?hb_0 _ _ _ _ s0 Try.underlying30 ?hc_0 (msg_info szx)
    case ha_0 => rfl
    case hb_0 => rfl
    exact rfl
  rotate_left
  · simp only [Act.put, List.setIfInBounds_toArray, List.set_cons_zero, List.set_cons_succ, i64_w, i32_w]
    rfl
  refine take_ (i := 2) (N := some 7) (v := ?_) (a' := ?_) (bm 43 5) rfl rfl (take_ofW HT_.out HW_.out (by as_aux_lemma => kernel_rfl)) (fun _ _ _ h => h) (Or.inl ⟨by rfl, ?_⟩) hHeld ?_ ?_
  rotate_left
  · rintro w' ⟨s0, s1, s2⟩
    refine exec_load_row 30 (.tmp 3) ?ha_2 (w.heap.size + 1) ?hb_2 _ _ _ _ s1 Try.underlying30 ?hc_2 (msg_info szy)
    case ha_2 => rfl
    case hb_2 => rfl
    exact rfl
  rotate_left
  · simp only [Act.put, List.setIfInBounds_toArray, List.set_cons_zero, List.set_cons_succ, i64_w, i32_w]
    rfl
  refine one_ (i := 1) (N := some 6) (bm 43 7) rfl rfl (one_of HT_.out (by as_aux_lemma => kernel_rfl)) (by as_aux_lemma => decide) (fun K hK => ?_)
  refine goes_ Try.func50 (by as_aux_lemma => kernel_rfl) rfl #[.agg cx] (by rfl) rfl rfl (by simp only [List.map_toArray, List.map_cons, List.map_nil]; rfl) ?_
  with_reducible refine (plain_msg (MX.out.on hHeld.2.2.out)).mono ?_
  rintro e wq1 ⟨rfl, hb⟩
  refine ⟨_, rfl, ?_⟩
  refine hK.out _ _ ⟨blk_below hHeld.1 hb, blk_below hHeld.2.1 hb, Aside0.mk (below_step hHeld.2.2.out hb)⟩ (fun hHeld => ?_)
  clear hK K hb
  refine norm_ (a' := ?_) ?_ ?_
  rotate_left
  · simp only [Act.put, List.setIfInBounds_toArray, List.set_cons_zero, List.set_cons_succ, i64_w, i32_w]
    rfl
  refine one_ (i := 3) (N := some 8) (bm 43 15) rfl rfl (one_of HT_.out (by as_aux_lemma => kernel_rfl)) (by as_aux_lemma => decide) (fun K hK => ?_)
  refine goes_ Try.func50 (by as_aux_lemma => kernel_rfl) rfl #[.agg cy] (by rfl) rfl rfl (by simp only [List.map_toArray, List.map_cons, List.map_nil]; rfl) ?_
  with_reducible refine (plain_msg (MY.out.on hHeld.2.2.out)).mono ?_
  rintro e wq3 ⟨rfl, hb⟩
  refine ⟨_, rfl, ?_⟩
  refine hK.out _ _ ⟨blk_below hHeld.1 hb, blk_below hHeld.2.1 hb, Aside0.mk (below_step hHeld.2.2.out hb)⟩ (fun hHeld => ?_)
  clear hK K hb
  refine norm_ (a' := ?_) ?_ ?_
  rotate_left
  · simp only [Act.put, List.setIfInBounds_toArray, List.set_cons_zero, List.set_cons_succ, i64_w, i32_w]
    rfl
  refine pure_ (i := 4) (N := some 9) (v := (.bool b0)) (a' := ?_) (bm 43 31) rfl rfl (any_of HT_.out (by as_aux_lemma => kernel_rfl)) (fun _ _ _ h => h) (Or.inl ⟨by rfl, ?_⟩) ?_ ?_
  · intro w'
    have hpe : (Op.equalIn 10000 77 (.agg (plainC x)) (.agg (plainC y))).run Try.prog w' = .ok b0 w' := HPE.out 9997 w'
    go_simp
    first | done | rfl | with_reducible rfl
  rotate_left
  · simp only [Act.put, List.setIfInBounds_toArray, List.set_cons_zero, List.set_cons_succ, i64_w, i32_w]
    rfl
  refine pure_ (i := 5) (N := some 10) (v := ?_) (a' := ?_) (bm 43 63) rfl rfl (any_of HT_.out (by as_aux_lemma => kernel_rfl)) (fun _ _ _ h => h) (Or.inl ⟨by rfl, ?_⟩) ?_ ?_
  rotate_left
  · intro w'
    go_simp
    with_reducible rfl
  rotate_left
  · simp only [Act.put, List.setIfInBounds_toArray, List.set_cons_zero, List.set_cons_succ, i64_w, i32_w]
    rfl
  refine gpure_ (i := 6) (N := some 11) (V := (.pointer (some ⟨w.heap.size, 12, none⟩))) (B := b0) (bm 43 127) rfl rfl (any_of HT_.out (by as_aux_lemma => kernel_rfl)) (fun _ _ _ _ h => h) ?_ ?_
  · cases b0 with
    | false => exact ⟨undef, (fun h => by cases h), Or.inr ⟨by rfl, rfl⟩⟩
    | true =>
      refine ⟨_, fun _ => rfl, Or.inl ⟨by rfl, ?_⟩⟩
      intro w'
      go_simp
      first | done | rfl
  intro u11 hu11_
  refine norm_ (a' := ?_) ?_ ?_
  rotate_left
  · simp only [Act.put, List.setIfInBounds_toArray, List.set_cons_zero, List.set_cons_succ, i64_w, i32_w]
    rfl
  refine gtake_ (i := 7) (N := some 12) (V := (.slice Ax12 x.words.length cx12)) (B := b0) (bm 43 255) rfl rfl (take_ofW HT_.out HW_.out (by as_aux_lemma => kernel_rfl)) (fun _ _ _ _ h => h) hHeld ?_ ?_
  · cases b0 with
    | false => exact ⟨undef, (fun h => by cases h), Or.inr ⟨by rfl, rfl⟩⟩
    | true =>
      obtain rfl := hu11_ rfl
      refine ⟨_, fun _ => rfl, Or.inl ⟨by rfl, ?_⟩⟩
      rintro w' ⟨s0, s1, s2⟩
      have hk_ := (blk_cell s0 12).trans LX12.out
      go_simp
      first | done | rfl
  intro u12 hu12_
  refine norm_ (a' := ?_) ?_ ?_
  rotate_left
  · simp only [Act.put, List.setIfInBounds_toArray, List.set_cons_zero, List.set_cons_succ, i64_w, i32_w]
    rfl
  refine gpure_ (i := 8) (N := some 13) (V := (.pointer (some ⟨w.heap.size + 1, 12, none⟩))) (B := b0) (bm 43 511) rfl rfl (any_of HT_.out (by as_aux_lemma => kernel_rfl)) (fun _ _ _ _ h => h) ?_ ?_
  · cases b0 with
    | false => exact ⟨undef, (fun h => by cases h), Or.inr ⟨by rfl, rfl⟩⟩
    | true =>
      obtain rfl := hu11_ rfl
      obtain rfl := hu12_ rfl
      refine ⟨_, fun _ => rfl, Or.inl ⟨by rfl, ?_⟩⟩
      intro w'
      go_simp
      first | done | rfl
  intro u13 hu13_
  refine norm_ (a' := ?_) ?_ ?_
  rotate_left
  · simp only [Act.put, List.setIfInBounds_toArray, List.set_cons_zero, List.set_cons_succ, i64_w, i32_w]
    rfl
  refine gtake_ (i := 9) (N := some 14) (V := (.slice Ay12 y.words.length cy12)) (B := b0) (bm 43 1023) rfl rfl (take_ofW HT_.out HW_.out (by as_aux_lemma => kernel_rfl)) (fun _ _ _ _ h => h) hHeld ?_ ?_
  · cases b0 with
    | false => exact ⟨undef, (fun h => by cases h), Or.inr ⟨by rfl, rfl⟩⟩
    | true =>
      obtain rfl := hu11_ rfl
      obtain rfl := hu12_ rfl
      obtain rfl := hu13_ rfl
      refine ⟨_, fun _ => rfl, Or.inl ⟨by rfl, ?_⟩⟩
      rintro w' ⟨s0, s1, s2⟩
      have hk_ := (blk_cell s1 12).trans LY12.out
      go_simp
      first | done | rfl
  intro u14 hu14_
  refine norm_ (a' := ?_) ?_ ?_
  rotate_left
  · simp only [Act.put, List.setIfInBounds_toArray, List.set_cons_zero, List.set_cons_succ, i64_w, i32_w]
    rfl
  refine gone_ (i := 10) (N := some 15) (V := (.bool (x.words == y.words))) (B := b0) (bm 43 2047) rfl rfl (one_of HT_.out (by as_aux_lemma => kernel_rfl)) (by as_aux_lemma => decide) (fun K hK => ?_) ?_
  · cases b0 with
    | false => exact off_ (by rfl) (hK _ _ hHeld (fun h => by cases h))
    | true =>
      obtain rfl := hu11_ rfl
      obtain rfl := hu12_ rfl
      obtain rfl := hu13_ rfl
      obtain rfl := hu14_ rfl
      refine goes_ Try.func51 (by as_aux_lemma => kernel_rfl) rfl #[.slice Ax12 x.words.length cx12, .slice Ay12 y.words.length cy12] (by rfl) rfl rfl (by simp only [List.map_toArray, List.map_cons, List.map_nil]; rfl) ?_
      with_reducible refine (eqw_c (Kd.C_below RX12.out.1 hHeld.2.2.out) RX12.out.2 (Kd.C_below RY12.out.1 hHeld.2.2.out) RY12.out.2).mono ?_
      rintro e wq ⟨rfl, hb⟩
      exact ⟨_, rfl, hK _ _ ⟨blk_below hHeld.1 hb, blk_below hHeld.2.1 hb, Aside0.mk (below_step hHeld.2.2.out hb)⟩ (fun _ => rfl)⟩
  clear hHeld
  intro u15 w10 hHeld hu15_
  refine norm_ (a' := ?_) ?_ ?_
  rotate_left
  · simp only [Act.put, List.setIfInBounds_toArray, List.set_cons_zero, List.set_cons_succ, i64_w, i32_w]
    rfl
  obtain ⟨q1, eq1_⟩ : ∃ z, z = (b0 && (x.words == y.words)) := ⟨_, rfl⟩
  have Eq1 := Aside0.mk eq1_
  clear eq1_
  refine pure_ (i := 11) (N := some 16) (v := (.bool q1)) (a' := ?_) (bm 43 4095) rfl rfl (any_of HT_.out (by as_aux_lemma => kernel_rfl)) (fun _ _ _ h => h) (Or.inl ⟨by rfl, ?_⟩) ?_ ?_
  · intro w'
    rw [Eq1.out]
    cases b0 with
    | false => go_simp; first | done | rfl
    | true =>
      obtain rfl := hu15_ rfl
      go_simp
      first | done | rfl
  rotate_left
  · simp only [Act.put, List.setIfInBounds_toArray, List.set_cons_zero, List.set_cons_succ, i64_w, i32_w]
    rfl
  clear hu11_
  clear hu12_
  clear hu13_
  clear hu14_
  clear hu15_
  refine pure_ (i := 12) (N := some 17) (v := ?_) (a' := ?_) (bm 43 8191) rfl rfl (any_of HT_.out (by as_aux_lemma => kernel_rfl)) (fun _ _ _ h => h) (Or.inl ⟨by rfl, ?_⟩) ?_ ?_
  rotate_left
  · intro w'
    go_simp
    with_reducible rfl
  rotate_left
  · simp only [Act.put, List.setIfInBounds_toArray, List.set_cons_zero, List.set_cons_succ, i64_w, i32_w]
    rfl
  refine gpure_ (i := 13) (N := some 18) (V := (.pointer (some ⟨w.heap.size, 13, none⟩))) (B := q1) (bm 43 16383) rfl rfl (any_of HT_.out (by as_aux_lemma => kernel_rfl)) (fun _ _ _ _ h => h) ?_ ?_
  · cases q1 with
    | false => exact ⟨undef, (fun h => by cases h), Or.inr ⟨by rfl, rfl⟩⟩
    | true =>
      refine ⟨_, fun _ => rfl, Or.inl ⟨by rfl, ?_⟩⟩
      intro w'
      go_simp
      first | done | rfl
  intro u18 hu18_
  refine norm_ (a' := ?_) ?_ ?_
  rotate_left
  · simp only [Act.put, List.setIfInBounds_toArray, List.set_cons_zero, List.set_cons_succ, i64_w, i32_w]
    rfl
  refine gtake_ (i := 14) (N := some 19) (V := (.slice Ax13 x.bits.length cx13)) (B := q1) (bm 43 32767) rfl rfl (take_ofW HT_.out HW_.out (by as_aux_lemma => kernel_rfl)) (fun _ _ _ _ h => h) hHeld ?_ ?_
  · cases q1 with
    | false => exact ⟨undef, (fun h => by cases h), Or.inr ⟨by rfl, rfl⟩⟩
    | true =>
      obtain rfl := hu18_ rfl
      refine ⟨_, fun _ => rfl, Or.inl ⟨by rfl, ?_⟩⟩
      rintro w' ⟨s0, s1, s2⟩
      have hk_ := (blk_cell s0 13).trans LX13.out
      go_simp
      first | done | rfl
  intro u19 hu19_
  refine norm_ (a' := ?_) ?_ ?_
  rotate_left
  · simp only [Act.put, List.setIfInBounds_toArray, List.set_cons_zero, List.set_cons_succ, i64_w, i32_w]
    rfl
  refine gpure_ (i := 15) (N := some 20) (V := (.pointer (some ⟨w.heap.size + 1, 13, none⟩))) (B := q1) (bm 43 65535) rfl rfl (any_of HT_.out (by as_aux_lemma => kernel_rfl)) (fun _ _ _ _ h => h) ?_ ?_
  · cases q1 with
    | false => exact ⟨undef, (fun h => by cases h), Or.inr ⟨by rfl, rfl⟩⟩
    | true =>
      obtain rfl := hu18_ rfl
      obtain rfl := hu19_ rfl
      refine ⟨_, fun _ => rfl, Or.inl ⟨by rfl, ?_⟩⟩
      intro w'
      go_simp
      first | done | rfl
  intro u20 hu20_
  refine norm_ (a' := ?_) ?_ ?_
  rotate_left
  · simp only [Act.put, List.setIfInBounds_toArray, List.set_cons_zero, List.set_cons_succ, i64_w, i32_w]
    rfl
  refine gtake_ (i := 16) (N := some 21) (V := (.slice Ay13 y.bits.length cy13)) (B := q1) (bm 43 131071) rfl rfl (take_ofW HT_.out HW_.out (by as_aux_lemma => kernel_rfl)) (fun _ _ _ _ h => h) hHeld ?_ ?_
  · cases q1 with
    | false => exact ⟨undef, (fun h => by cases h), Or.inr ⟨by rfl, rfl⟩⟩
    | true =>
      obtain rfl := hu18_ rfl
      obtain rfl := hu19_ rfl
      obtain rfl := hu20_ rfl
      refine ⟨_, fun _ => rfl, Or.inl ⟨by rfl, ?_⟩⟩
      rintro w' ⟨s0, s1, s2⟩
      have hk_ := (blk_cell s1 13).trans LY13.out
      go_simp
      first | done | rfl
  intro u21 hu21_
  refine norm_ (a' := ?_) ?_ ?_
  rotate_left
  · simp only [Act.put, List.setIfInBounds_toArray, List.set_cons_zero, List.set_cons_succ, i64_w, i32_w]
    rfl
  refine gone_ (i := 17) (N := some 22) (V := (.bool (x.bits == y.bits))) (B := q1) (bm 43 262143) rfl rfl (one_of HT_.out (by as_aux_lemma => kernel_rfl)) (by as_aux_lemma => decide) (fun K hK => ?_) ?_
  · cases q1 with
    | false => exact off_ (by rfl) (hK _ _ hHeld (fun h => by cases h))
    | true =>
      obtain rfl := hu18_ rfl
      obtain rfl := hu19_ rfl
      obtain rfl := hu20_ rfl
      obtain rfl := hu21_ rfl
      refine goes_ Try.func52 (by as_aux_lemma => kernel_rfl) rfl #[.slice Ax13 x.bits.length cx13, .slice Ay13 y.bits.length cy13] (by rfl) rfl rfl (by simp only [List.map_toArray, List.map_cons, List.map_nil]; rfl) ?_
      with_reducible refine (eqb_c (Kd.C_below RX13.out.1 hHeld.2.2.out) RX13.out.2 (Kd.C_below RY13.out.1 hHeld.2.2.out) RY13.out.2).mono ?_
      rintro e wq ⟨rfl, hb⟩
      exact ⟨_, rfl, hK _ _ ⟨blk_below hHeld.1 hb, blk_below hHeld.2.1 hb, Aside0.mk (below_step hHeld.2.2.out hb)⟩ (fun _ => rfl)⟩
  clear hHeld
  intro u22 w17 hHeld hu22_
  refine norm_ (a' := ?_) ?_ ?_
  rotate_left
  · simp only [Act.put, List.setIfInBounds_toArray, List.set_cons_zero, List.set_cons_succ, i64_w, i32_w]
    rfl
  obtain ⟨q2, eq2_⟩ : ∃ z, z = (q1 && (x.bits == y.bits)) := ⟨_, rfl⟩
  have Eq2 := Aside0.mk eq2_
  clear eq2_
  refine pure_ (i := 18) (N := some 23) (v := (.bool q2)) (a' := ?_) (bm 43 524287) rfl rfl (any_of HT_.out (by as_aux_lemma => kernel_rfl)) (fun _ _ _ h => h) (Or.inl ⟨by rfl, ?_⟩) ?_ ?_
  · intro w'
    rw [Eq2.out]
    cases q1 with
    | false => go_simp; first | done | rfl
    | true =>
      obtain rfl := hu22_ rfl
      go_simp
      first | done | rfl
  rotate_left
  · simp only [Act.put, List.setIfInBounds_toArray, List.set_cons_zero, List.set_cons_succ, i64_w, i32_w]
    rfl
  clear hu18_
  clear hu19_
  clear hu20_
  clear hu21_
  clear hu22_
  refine pure_ (i := 19) (N := some 24) (v := ?_) (a' := ?_) (bm 43 1048575) rfl rfl (any_of HT_.out (by as_aux_lemma => kernel_rfl)) (fun _ _ _ h => h) (Or.inl ⟨by rfl, ?_⟩) ?_ ?_
  rotate_left
  · intro w'
    go_simp
    with_reducible rfl
  rotate_left
  · simp only [Act.put, List.setIfInBounds_toArray, List.set_cons_zero, List.set_cons_succ, i64_w, i32_w]
    rfl
  refine gpure_ (i := 20) (N := some 25) (V := (.pointer (some ⟨w.heap.size, 14, none⟩))) (B := q2) (bm 43 2097151) rfl rfl (any_of HT_.out (by as_aux_lemma => kernel_rfl)) (fun _ _ _ _ h => h) ?_ ?_
  · cases q2 with
    | false => exact ⟨undef, (fun h => by cases h), Or.inr ⟨by rfl, rfl⟩⟩
    | true =>
      refine ⟨_, fun _ => rfl, Or.inl ⟨by rfl, ?_⟩⟩
      intro w'
      go_simp
      first | done | rfl
  intro u25 hu25_
  refine norm_ (a' := ?_) ?_ ?_
  rotate_left
  · simp only [Act.put, List.setIfInBounds_toArray, List.set_cons_zero, List.set_cons_succ, i64_w, i32_w]
    rfl
  refine gtake_ (i := 21) (N := some 26) (V := (.slice Ax14 x.data.length cx14)) (B := q2) (bm 43 4194303) rfl rfl (take_ofW HT_.out HW_.out (by as_aux_lemma => kernel_rfl)) (fun _ _ _ _ h => h) hHeld ?_ ?_
  · cases q2 with
    | false => exact ⟨undef, (fun h => by cases h), Or.inr ⟨by rfl, rfl⟩⟩
    | true =>
      obtain rfl := hu25_ rfl
      refine ⟨_, fun _ => rfl, Or.inl ⟨by rfl, ?_⟩⟩
      rintro w' ⟨s0, s1, s2⟩
      have hk_ := (blk_cell s0 14).trans LX14.out
      go_simp
      first | done | rfl
  intro u26 hu26_
  refine norm_ (a' := ?_) ?_ ?_
  rotate_left
  · simp only [Act.put, List.setIfInBounds_toArray, List.set_cons_zero, List.set_cons_succ, i64_w, i32_w]
    rfl
  refine gtake_ (i := 22) (N := some 27) (V := (.string (strOfNums x.data))) (B := q2) (bm 43 8388607) rfl rfl (take_ofW HT_.out HW_.out (by as_aux_lemma => kernel_rfl)) (fun _ _ _ _ h => h) hHeld ?_ ?_
  · cases q2 with
    | false => exact ⟨undef, (fun h => by cases h), Or.inr ⟨by rfl, rfl⟩⟩
    | true =>
      obtain rfl := hu25_ rfl
      obtain rfl := hu26_ rfl
      refine ⟨_, fun _ => rfl, Or.inl ⟨by rfl, ?_⟩⟩
      rintro w' ⟨s0, s1, s2⟩
      have hcv_ := Kd.C_string (P := Try.prog) (A := Ax14) (c := cx14) Try.underlying22 Try.underlying5 Try.underlying9 (Kd.C_below RX14.out.1 s2.out)
      go_simp
      first | done | rfl
  intro u27 hu27_
  refine norm_ (a' := ?_) ?_ ?_
  rotate_left
  · simp only [Act.put, List.setIfInBounds_toArray, List.set_cons_zero, List.set_cons_succ, i64_w, i32_w]
    rfl
  refine gpure_ (i := 23) (N := some 28) (V := (.pointer (some ⟨w.heap.size + 1, 14, none⟩))) (B := q2) (bm 43 16777215) rfl rfl (any_of HT_.out (by as_aux_lemma => kernel_rfl)) (fun _ _ _ _ h => h) ?_ ?_
  · cases q2 with
    | false => exact ⟨undef, (fun h => by cases h), Or.inr ⟨by rfl, rfl⟩⟩
    | true =>
      refine ⟨_, fun _ => rfl, Or.inl ⟨by rfl, ?_⟩⟩
      intro w'
      go_simp
      first | done | rfl
  intro u28 hu28_
  refine norm_ (a' := ?_) ?_ ?_
  rotate_left
  · simp only [Act.put, List.setIfInBounds_toArray, List.set_cons_zero, List.set_cons_succ, i64_w, i32_w]
    rfl
  refine gtake_ (i := 24) (N := some 29) (V := (.slice Ay14 y.data.length cy14)) (B := q2) (bm 43 33554431) rfl rfl (take_ofW HT_.out HW_.out (by as_aux_lemma => kernel_rfl)) (fun _ _ _ _ h => h) hHeld ?_ ?_
  · cases q2 with
    | false => exact ⟨undef, (fun h => by cases h), Or.inr ⟨by rfl, rfl⟩⟩
    | true =>
      obtain rfl := hu28_ rfl
      refine ⟨_, fun _ => rfl, Or.inl ⟨by rfl, ?_⟩⟩
      rintro w' ⟨s0, s1, s2⟩
      have hk_ := (blk_cell s1 14).trans LY14.out
      go_simp
      first | done | rfl
  intro u29 hu29_
  refine norm_ (a' := ?_) ?_ ?_
  rotate_left
  · simp only [Act.put, List.setIfInBounds_toArray, List.set_cons_zero, List.set_cons_succ, i64_w, i32_w]
    rfl
  refine gtake_ (i := 25) (N := some 30) (V := (.string (strOfNums y.data))) (B := q2) (bm 43 67108863) rfl rfl (take_ofW HT_.out HW_.out (by as_aux_lemma => kernel_rfl)) (fun _ _ _ _ h => h) hHeld ?_ ?_
  · cases q2 with
    | false => exact ⟨undef, (fun h => by cases h), Or.inr ⟨by rfl, rfl⟩⟩
    | true =>
      obtain rfl := hu28_ rfl
      obtain rfl := hu29_ rfl
      refine ⟨_, fun _ => rfl, Or.inl ⟨by rfl, ?_⟩⟩
      rintro w' ⟨s0, s1, s2⟩
      have hcv_ := Kd.C_string (P := Try.prog) (A := Ay14) (c := cy14) Try.underlying22 Try.underlying5 Try.underlying9 (Kd.C_below RY14.out.1 s2.out)
      go_simp
      first | done | rfl
  intro u30 hu30_
  refine norm_ (a' := ?_) ?_ ?_
  rotate_left
  · simp only [Act.put, List.setIfInBounds_toArray, List.set_cons_zero, List.set_cons_succ, i64_w, i32_w]
    rfl
  refine gpure_ (i := 26) (N := some 31) (V := (.bool (x.data == y.data))) (B := q2) (bm 43 134217727) rfl rfl (any_of HT_.out (by as_aux_lemma => kernel_rfl)) (fun _ _ _ _ h => h) ?_ ?_
  · cases q2 with
    | false => exact ⟨undef, (fun h => by cases h), Or.inr ⟨by rfl, rfl⟩⟩
    | true =>
      obtain rfl := hu27_ rfl
      obtain rfl := hu30_ rfl
      refine ⟨_, fun _ => rfl, Or.inl ⟨by rfl, ?_⟩⟩
      intro w'
      rw [← DEQ.out]
      go_simp
      first | done | rfl
  intro u31 hu31_
  refine norm_ (a' := ?_) ?_ ?_
  rotate_left
  · simp only [Act.put, List.setIfInBounds_toArray, List.set_cons_zero, List.set_cons_succ, i64_w, i32_w]
    rfl
  obtain ⟨q3, eq3_⟩ : ∃ z, z = (q2 && (x.data == y.data)) := ⟨_, rfl⟩
  have Eq3 := Aside0.mk eq3_
  clear eq3_
  refine pure_ (i := 27) (N := some 32) (v := (.bool q3)) (a' := ?_) (bm 43 268435455) rfl rfl (any_of HT_.out (by as_aux_lemma => kernel_rfl)) (fun _ _ _ h => h) (Or.inl ⟨by rfl, ?_⟩) ?_ ?_
  · intro w'
    rw [Eq3.out]
    cases q2 with
    | false => go_simp; first | done | rfl
    | true =>
      obtain rfl := hu31_ rfl
      go_simp
      first | done | rfl
  rotate_left
  · simp only [Act.put, List.setIfInBounds_toArray, List.set_cons_zero, List.set_cons_succ, i64_w, i32_w]
    rfl
  clear hu25_
  clear hu26_
  clear hu27_
  clear hu28_
  clear hu29_
  clear hu30_
  clear hu31_
  refine pure_ (i := 28) (N := some 33) (v := ?_) (a' := ?_) (bm 43 536870911) rfl rfl (any_of HT_.out (by as_aux_lemma => kernel_rfl)) (fun _ _ _ h => h) (Or.inl ⟨by rfl, ?_⟩) ?_ ?_
  rotate_left
  · intro w'
    go_simp
    with_reducible rfl
  rotate_left
  · simp only [Act.put, List.setIfInBounds_toArray, List.set_cons_zero, List.set_cons_succ, i64_w, i32_w]
    rfl
  refine gpure_ (i := 29) (N := some 34) (V := (.pointer (some ⟨w.heap.size, 15, none⟩))) (B := q3) (bm 43 1073741823) rfl rfl (any_of HT_.out (by as_aux_lemma => kernel_rfl)) (fun _ _ _ _ h => h) ?_ ?_
  · cases q3 with
    | false => exact ⟨undef, (fun h => by cases h), Or.inr ⟨by rfl, rfl⟩⟩
    | true =>
      refine ⟨_, fun _ => rfl, Or.inl ⟨by rfl, ?_⟩⟩
      intro w'
      go_simp
      first | done | rfl
  intro u34 hu34_
  refine norm_ (a' := ?_) ?_ ?_
  rotate_left
  · simp only [Act.put, List.setIfInBounds_toArray, List.set_cons_zero, List.set_cons_succ, i64_w, i32_w]
    rfl
  refine gtake_ (i := 30) (N := some 35) (V := (.slice Ax15 x.recs.length cx15)) (B := q3) (bm 43 2147483647) rfl rfl (take_ofW HT_.out HW_.out (by as_aux_lemma => kernel_rfl)) (fun _ _ _ _ h => h) hHeld ?_ ?_
  · cases q3 with
    | false => exact ⟨undef, (fun h => by cases h), Or.inr ⟨by rfl, rfl⟩⟩
    | true =>
      obtain rfl := hu34_ rfl
      refine ⟨_, fun _ => rfl, Or.inl ⟨by rfl, ?_⟩⟩
      rintro w' ⟨s0, s1, s2⟩
      have hk_ := (blk_cell s0 15).trans LX15.out
      go_simp
      first | done | rfl
  intro u35 hu35_
  refine norm_ (a' := ?_) ?_ ?_
  rotate_left
  · simp only [Act.put, List.setIfInBounds_toArray, List.set_cons_zero, List.set_cons_succ, i64_w, i32_w]
    rfl
  refine gpure_ (i := 31) (N := some 36) (V := (.pointer (some ⟨w.heap.size + 1, 15, none⟩))) (B := q3) (bm 43 4294967295) rfl rfl (any_of HT_.out (by as_aux_lemma => kernel_rfl)) (fun _ _ _ _ h => h) ?_ ?_
  · cases q3 with
    | false => exact ⟨undef, (fun h => by cases h), Or.inr ⟨by rfl, rfl⟩⟩
    | true =>
      obtain rfl := hu34_ rfl
      obtain rfl := hu35_ rfl
      refine ⟨_, fun _ => rfl, Or.inl ⟨by rfl, ?_⟩⟩
      intro w'
      go_simp
      first | done | rfl
  intro u36 hu36_
  refine norm_ (a' := ?_) ?_ ?_
  rotate_left
  · simp only [Act.put, List.setIfInBounds_toArray, List.set_cons_zero, List.set_cons_succ, i64_w, i32_w]
    rfl
  refine gtake_ (i := 32) (N := some 37) (V := (.slice Ay15 y.recs.length cy15)) (B := q3) (bm 43 8589934591) rfl rfl (take_ofW HT_.out HW_.out (by as_aux_lemma => kernel_rfl)) (fun _ _ _ _ h => h) hHeld ?_ ?_
  · cases q3 with
    | false => exact ⟨undef, (fun h => by cases h), Or.inr ⟨by rfl, rfl⟩⟩
    | true =>
      obtain rfl := hu34_ rfl
      obtain rfl := hu35_ rfl
      obtain rfl := hu36_ rfl
      refine ⟨_, fun _ => rfl, Or.inl ⟨by rfl, ?_⟩⟩
      rintro w' ⟨s0, s1, s2⟩
      have hk_ := (blk_cell s1 15).trans LY15.out
      go_simp
      first | done | rfl
  intro u37 hu37_
  refine norm_ (a' := ?_) ?_ ?_
  rotate_left
  · simp only [Act.put, List.setIfInBounds_toArray, List.set_cons_zero, List.set_cons_succ, i64_w, i32_w]
    rfl
  refine gone_ (i := 33) (N := some 38) (V := (.bool (listB recB x.recs y.recs))) (B := q3) (bm 43 17179869183) rfl rfl (one_of HT_.out (by as_aux_lemma => kernel_rfl)) (by as_aux_lemma => decide) (fun K hK => ?_) ?_
  · cases q3 with
    | false => exact off_ (by rfl) (hK _ _ hHeld (fun h => by cases h))
    | true =>
      obtain rfl := hu34_ rfl
      obtain rfl := hu35_ rfl
      obtain rfl := hu36_ rfl
      obtain rfl := hu37_ rfl
      refine goes_ Try.func53 (by as_aux_lemma => kernel_rfl) rfl #[.slice Ax15 x.recs.length cx15, .slice Ay15 y.recs.length cy15, .func (.func 54) #[] #[]] (by rfl) rfl rfl (by simp only [List.map_toArray, List.map_cons, List.map_nil]; rfl) ?_
      with_reducible refine (recs_any Ax15 Ay15 cx15 cy15 x.recs y.recs _ (Kd.C_below RX15.out.1 hHeld.2.2.out) (Kd.C_below RY15.out.1 hHeld.2.2.out)).mono ?_
      rintro e wq ⟨rfl, hb⟩
      exact ⟨_, rfl, hK _ _ ⟨blk_below hHeld.1 hb, blk_below hHeld.2.1 hb, Aside0.mk (below_step hHeld.2.2.out hb)⟩ (fun _ => rfl)⟩
  clear hHeld
  intro u38 w33 hHeld hu38_
  refine norm_ (a' := ?_) ?_ ?_
  rotate_left
  · simp only [Act.put, List.setIfInBounds_toArray, List.set_cons_zero, List.set_cons_succ, i64_w, i32_w]
    rfl
  obtain ⟨q4, eq4_⟩ : ∃ z, z = (q3 && (listB recB x.recs y.recs)) := ⟨_, rfl⟩
  have Eq4 := Aside0.mk eq4_
  clear eq4_
  refine pure_ (i := 34) (N := some 39) (v := (.bool q4)) (a' := ?_) (bm 43 34359738367) rfl rfl (any_of HT_.out (by as_aux_lemma => kernel_rfl)) (fun _ _ _ h => h) (Or.inl ⟨by rfl, ?_⟩) ?_ ?_
  · intro w'
    rw [Eq4.out]
    cases q3 with
    | false => go_simp; first | done | rfl
    | true =>
      obtain rfl := hu38_ rfl
      go_simp
      first | done | rfl
  rotate_left
  · simp only [Act.put, List.setIfInBounds_toArray, List.set_cons_zero, List.set_cons_succ, i64_w, i32_w]
    rfl
  clear hu34_
  clear hu35_
  clear hu36_
  clear hu37_
  clear hu38_
  refine pure_ (i := 35) (N := some 40) (v := ?_) (a' := ?_) (bm 43 68719476735) rfl rfl (any_of HT_.out (by as_aux_lemma => kernel_rfl)) (fun _ _ _ h => h) (Or.inl ⟨by rfl, ?_⟩) ?_ ?_
  rotate_left
  · intro w'
    go_simp
    with_reducible rfl
  rotate_left
  · simp only [Act.put, List.setIfInBounds_toArray, List.set_cons_zero, List.set_cons_succ, i64_w, i32_w]
    rfl
  refine gpure_ (i := 36) (N := some 41) (V := (.pointer (some ⟨w.heap.size, 21, none⟩))) (B := q4) (bm 43 137438953471) rfl rfl (any_of HT_.out (by as_aux_lemma => kernel_rfl)) (fun _ _ _ _ h => h) ?_ ?_
  · cases q4 with
    | false => exact ⟨undef, (fun h => by cases h), Or.inr ⟨by rfl, rfl⟩⟩
    | true =>
      refine ⟨_, fun _ => rfl, Or.inl ⟨by rfl, ?_⟩⟩
      intro w'
      go_simp
      first | done | rfl
  intro u41 hu41_
  refine norm_ (a' := ?_) ?_ ?_
  rotate_left
  · simp only [Act.put, List.setIfInBounds_toArray, List.set_cons_zero, List.set_cons_succ, i64_w, i32_w]
    rfl
  refine gtake_ (i := 37) (N := some 42) (V := (.slice Ax21 x.objects.length cx21)) (B := q4) (bm 43 274877906943) rfl rfl (take_ofW HT_.out HW_.out (by as_aux_lemma => kernel_rfl)) (fun _ _ _ _ h => h) hHeld ?_ ?_
  · cases q4 with
    | false => exact ⟨undef, (fun h => by cases h), Or.inr ⟨by rfl, rfl⟩⟩
    | true =>
      obtain rfl := hu41_ rfl
      refine ⟨_, fun _ => rfl, Or.inl ⟨by rfl, ?_⟩⟩
      rintro w' ⟨s0, s1, s2⟩
      have hk_ := (blk_cell s0 21).trans LX21.out
      go_simp
      first | done | rfl
  intro u42 hu42_
  refine norm_ (a' := ?_) ?_ ?_
  rotate_left
  · simp only [Act.put, List.setIfInBounds_toArray, List.set_cons_zero, List.set_cons_succ, i64_w, i32_w]
    rfl
  refine gpure_ (i := 38) (N := some 43) (V := (.pointer (some ⟨w.heap.size + 1, 21, none⟩))) (B := q4) (bm 43 549755813887) rfl rfl (any_of HT_.out (by as_aux_lemma => kernel_rfl)) (fun _ _ _ _ h => h) ?_ ?_
  · cases q4 with
    | false => exact ⟨undef, (fun h => by cases h), Or.inr ⟨by rfl, rfl⟩⟩
    | true =>
      obtain rfl := hu41_ rfl
      obtain rfl := hu42_ rfl
      refine ⟨_, fun _ => rfl, Or.inl ⟨by rfl, ?_⟩⟩
      intro w'
      go_simp
      first | done | rfl
  intro u43 hu43_
  refine norm_ (a' := ?_) ?_ ?_
  rotate_left
  · simp only [Act.put, List.setIfInBounds_toArray, List.set_cons_zero, List.set_cons_succ, i64_w, i32_w]
    rfl
  refine gtake_ (i := 39) (N := some 44) (V := (.slice Ay21 y.objects.length cy21)) (B := q4) (bm 43 1099511627775) rfl rfl (take_ofW HT_.out HW_.out (by as_aux_lemma => kernel_rfl)) (fun _ _ _ _ h => h) hHeld ?_ ?_
  · cases q4 with
    | false => exact ⟨undef, (fun h => by cases h), Or.inr ⟨by rfl, rfl⟩⟩
    | true =>
      obtain rfl := hu41_ rfl
      obtain rfl := hu42_ rfl
      obtain rfl := hu43_ rfl
      refine ⟨_, fun _ => rfl, Or.inl ⟨by rfl, ?_⟩⟩
      rintro w' ⟨s0, s1, s2⟩
      have hk_ := (blk_cell s1 21).trans LY21.out
      go_simp
      first | done | rfl
  intro u44 hu44_
  refine norm_ (a' := ?_) ?_ ?_
  rotate_left
  · simp only [Act.put, List.setIfInBounds_toArray, List.set_cons_zero, List.set_cons_succ, i64_w, i32_w]
    rfl
  refine gone_ (i := 40) (N := some 45) (V := (.bool (listB objB x.objects y.objects))) (B := q4) (bm 43 2199023255551) rfl rfl (one_of HT_.out (by as_aux_lemma => kernel_rfl)) (by as_aux_lemma => decide) (fun K hK => ?_) ?_
  · cases q4 with
    | false => exact off_ (by rfl) (hK _ _ hHeld (fun h => by cases h))
    | true =>
      obtain rfl := hu41_ rfl
      obtain rfl := hu42_ rfl
      obtain rfl := hu43_ rfl
      obtain rfl := hu44_ rfl
      refine goes_ Try.func55 (by as_aux_lemma => kernel_rfl) rfl #[.slice Ax21 x.objects.length cx21, .slice Ay21 y.objects.length cy21, .func (.func 56) #[] #[]] (by rfl) rfl rfl (by simp only [List.map_toArray, List.map_cons, List.map_nil]; rfl) ?_
      with_reducible refine (objs_any Ax21 Ay21 cx21 cy21 x.objects y.objects _ (Kd.C_below RX21.out.1 hHeld.2.2.out) (Kd.C_below RY21.out.1 hHeld.2.2.out) OX.out OY.out).mono ?_
      rintro e wq ⟨rfl, hb⟩
      exact ⟨_, rfl, hK _ _ ⟨blk_below hHeld.1 hb, blk_below hHeld.2.1 hb, Aside0.mk (below_step hHeld.2.2.out hb)⟩ (fun _ => rfl)⟩
  clear hHeld
  intro u45 w40 hHeld hu45_
  refine norm_ (a' := ?_) ?_ ?_
  rotate_left
  · simp only [Act.put, List.setIfInBounds_toArray, List.set_cons_zero, List.set_cons_succ, i64_w, i32_w]
    rfl
  refine pure_ (i := 41) (N := some 46) (v := (.bool (q4 && (listB objB x.objects y.objects)))) (a' := ?_) (bm 43 4398046511103) rfl rfl (any_of HT_.out (by as_aux_lemma => kernel_rfl)) (fun _ _ _ h => h) (Or.inl ⟨by rfl, ?_⟩) ?_ ?_
  · intro w'
    cases q4 with
    | false => go_simp; first | done | rfl
    | true =>
      obtain rfl := hu45_ rfl
      go_simp
      first | done | rfl
  rotate_left
  · simp only [Act.put, List.setIfInBounds_toArray, List.set_cons_zero, List.set_cons_succ, i64_w, i32_w]
    rfl
  clear hu41_
  clear hu42_
  clear hu43_
  clear hu44_
  clear hu45_
  refine pure_ (i := 42) (N := some 4) (v := ?_) (a' := ?_) (bm 43 8796093022207) rfl rfl (any_of HT_.out (by as_aux_lemma => kernel_rfl)) (fun _ _ _ h => h) (Or.inl ⟨by rfl, ?_⟩) ?_ ?_
  rotate_left
  · intro w'
    go_simp
    with_reducible rfl
  rotate_left
  · simp only [Act.put, List.setIfInBounds_toArray, List.set_cons_zero, List.set_cons_succ, i64_w, i32_w]
    rfl
  refine done_ (done_of HT_.out (by as_aux_lemma => kernel_rfl)) ?_
  go_wp2
  go_ret
  refine ⟨?_, hHeld.2.2.out⟩
  first | (rw [Eq4.out, Eq3.out, Eq2.out, Eq1.out]; rfl) | (rw [Eq4.out, Eq3.out, Eq2.out, Eq1.out])
end Go.Proofs.Ytalaochocmcbcaa.Same
end
section
namespace Go.Proofs.Ytalaochocmcbcaa.Same
open Go.RowKit Go.Proofs.Ytalaochocmcbcaa.P Go.Proofs.Ytalaochocmcbcaa.E Go.Proofs.YtalaochocmcbcaaW.PrintWords Go.Proofs.YtalaochocmcbcaaW.PrintLast Go.Proofs.YtalaochocmcbcaaW.PrintMore
def Sta (F : World → Prop) : Prop := ∀ W W', Below W.heap.size W W' → F W → F W'
theorem sta_C {α : Type} (d : Kd α) (A : Option Addr) (n : Nat) (xs : List α) : Sta fun W => d.C W A n xs := fun _ _ hb h => Kd.C_below h hb
theorem sta_msg (cx : Array Value) (m : Msg) : Sta fun W => IsMsg W cx m := fun _ _ hb h => h.on hb
theorem sta_blk (g : Nat) (o : Obj) : Sta fun W => W.heap[g]? = some o := fun _ _ hb h => blk_below h hb
structure Hd (w0 : World) (F : World → Prop) (W : World) : Prop where
  b : Below w0.heap.size w0 W
  f : F W
  st : Sta F
theorem Hd.start (w : World) : Hd w (fun _ => True) w := ⟨Below.refl _ _, trivial, fun _ _ _ h => h⟩
theorem Hd.on {w0 W W' : World} {F : World → Prop} (h : Hd w0 F W) (hb : Below W.heap.size W W') : Hd w0 F W' := ⟨h.b.trans (hb.mono h.b.size), h.st _ _ hb h.f, h.st⟩
theorem Hd.add {w0 W : World} {F G : World → Prop} (h : Hd w0 F W) (sg : Sta G) (g : G W) : Hd w0 (fun W => F W ∧ G W) W := ⟨h.b, ⟨h.f, g⟩, fun _ _ hb hfg => ⟨h.st _ _ hb hfg.1, sg _ _ hb hfg.2⟩⟩
theorem Hd.al {w0 W : World} {F : World → Prop} (h : Hd w0 F W) (o : Obj) : Hd w0 F (W.alloc o) := h.on (below_alloc (Below.refl _ _) o)
theorem Hd.dr {w0 W : World} {F : World → Prop} (h : Hd w0 F W) : Hd w0 F W.drew := h.on (below_drew (Below.refl _ _))
end Go.Proofs.Ytalaochocmcbcaa.Same
end
section
namespace Go.Proofs.Ytalaochocmcbcaa.P
open Go.RowKit Go.Proofs.YtalaochocmcbcaaW.PrintWords Go.Proofs.YtalaochocmcbcaaW.PrintLast Go.Proofs.YtalaochocmcbcaaW.PrintMore
attribute [local go_sem] max2_int min2_int max_two min_two max_three min_three max_four min_four   -- for this text's walks alone
def busbarref01_Bools.l0 : Nat → List Bool → List Bool → Int → Option (Bool)
  | 0, _, _, _ => none
  | k + 1, x0, x1, x5 => if x5 < (x0.length : Int) then (if 0 ≤ x5 then (if x5 < (x1.length : Int) then (if ((rdOf false x0 x5) != (rdOf false x1 x5)) = true then (some false) else (busbarref01_Bools.l0 k x0 x1 (wrap64 (x5 + 1)))) else (none)) else (none)) else (some true)
def busbarref01_Bools.f (k : Nat) (l0 : List Bool) (l1 : List Bool) : Option (Bool) := if (l0.length : Int) = (l1.length : Int) then (busbarref01_Bools.l0 k l0 l1 0) else (some false)
theorem busbarref01_Bools.mono_l : ∀ k, (∀ y0 y1 y2, LeO (busbarref01_Bools.l0 k y0 y1 y2) (busbarref01_Bools.l0 (k + 1) y0 y1 y2))
  | 0 => fun _ _ _ r h => by simp [busbarref01_Bools.l0] at h
  | k + 1 => by
    have ih0 := busbarref01_Bools.mono_l k
    · intro y0 y1 y2
      unfold busbarref01_Bools.l0
      repeat' first
      | (with_reducible exact ih0 _ _ _)
      | (with_reducible exact LeO.refl _)
      | (with_reducible exact LeO.none _)
      | (with_reducible refine LeO.ite ?_ ?_)
      | (with_reducible refine LeO.bind ?_ (fun _ => ?_))
      | exact ih0 _ _ _
      | exact LeO.none _
      | refine LeO.ite ?_ ?_
      | refine LeO.bind ?_ (fun _ => ?_)
theorem busbarref01_Bools.mono : ∀ a0 a1 k, LeO (busbarref01_Bools.f k a0 a1) (busbarref01_Bools.f (k + 1) a0 a1) := by
  intro a0 a1 k
  have ih0 := busbarref01_Bools.mono_l k
  unfold busbarref01_Bools.f
  repeat' first
      | (with_reducible exact ih0 _ _ _)
      | (with_reducible exact LeO.refl _)
      | (with_reducible exact LeO.none _)
      | (with_reducible refine LeO.ite ?_ ?_)
      | (with_reducible refine LeO.bind ?_ (fun _ => ?_))
      | exact ih0 _ _ _
      | exact LeO.none _
      | refine LeO.ite ?_ ?_
      | refine LeO.bind ?_ (fun _ => ?_)
theorem busbarref01_Bools.calls (k : Nat) (A0 : Option Addr) (c0 : Nat) (l0 : List Bool) (A1 : Option Addr) (c1 : Nat) (l1 : List Bool) (r : Bool) (w : World) (hr0 : Kd.C Kd.bool w A0 l0.length l0) (hc0 : l0.length ≤ c0) (hr1 : Kd.C Kd.bool w A1 l1.length l1) (hc1 : l1.length ≤ c1) (h : busbarref01_Bools.f k l0 l1 = some r) :
    Calls Try.prog 34 #[.slice A0 l0.length c0, .slice A1 l1.length c1] w fun e w' => e = .returned (.bool r) ∧ Drawn0 w w' := by
  have HR0 := Aside0.mk hr0
  have HC0 := Aside0.mk hc0
  clear hr0 hc0
  have HR1 := Aside0.mk hr1
  have HC1 := Aside0.mk hc1
  clear hr1 hc1
  have H : (if (l0.length : Int) = (l1.length : Int) then (busbarref01_Bools.l0 k l0 l1 0) else (some false)) = some r := h
  clear h
  by_cases c3 : (l0.length : Int) = (l1.length : Int)
  · rw [if_pos c3] at H
    have c3b0 : ((l0.length : Int) == (l1.length : Int)) = true := beq_iff_eq.mpr c3
    have c3b1 : ((l0.length : Int) != (l1.length : Int)) = false := bne_eq_false_iff_eq.mpr c3
    have c3b2 : (l0.length == l1.length) = true := by first | simpa using c3 | (simp at c3 ⊢; omega)
    clear c3
    have H' := Aside0.mk H
    clear H
    go_enter Try.func34, Try.ntmps34
    go_wp2
    repeat (go_quiet (fail); try go_wp2)
    go_loopg [5] k (fun kq v5 w' => ∃ (x5_1 : Int), v5 = .int .i64 x5_1 ∧ Aside0 (busbarref01_Bools.l0 kq l0 l1 x5_1 = some r) ∧ Aside0 (kq ≤ k) ∧ Drawn0 w w')
    case atStart => exact ⟨(0), (by first | rfl | (simp; done) | (simp [*]; done)), H', ⟨Nat.le_refl _⟩, by repeat (first | exact Drawn0.refl _ | apply Drawn0.step)⟩
    case round =>
      clear H'
      try clear c1
      try clear p2
      try clear c3
      try clear c3b0
      try clear c3b1
      try clear c3b2
      obtain ⟨x5_1, rfl, HA, HK1, ⟨m1, rfl⟩⟩ := hrel
      cases gk with
      | zero => exact absurd HA.out (by simp [busbarref01_Bools.l0])
      | succ k1 =>
        have H := HA.out
        clear HA
        simp only [busbarref01_Bools.l0] at H
        by_cases c4 : x5_1 < (l0.length : Int)
        · rw [if_pos c4] at H
          have c4b0 : decide (x5_1 < (l0.length : Int)) = true := decide_eq_true c4
          clear c4
          by_cases c5 : 0 ≤ x5_1
          · rw [if_pos c5] at H
            have c5b0 : decide (0 ≤ x5_1) = true := decide_eq_true c5
            clear c5
            by_cases c6 : x5_1 < (l1.length : Int)
            · rw [if_pos c6] at H
              have c6b0 : decide (x5_1 < (l1.length : Int)) = true := decide_eq_true c6
              clear c6
              by_cases c7 : ((rdOf false l0 x5_1) != (rdOf false l1 x5_1)) = true
              · rw [if_pos c7] at H
                have c7b0 : ((rdOf false l0 x5_1) != (rdOf false l1 x5_1)) = true := c7
                (try (have c7b1 : decide ((rdOf false l0 x5_1) = (rdOf false l1 x5_1)) = false := by simpa using c7))
                (try (have c7b2 : ((rdOf false l0 x5_1) == (rdOf false l1 x5_1)) = false := by simpa using c7))
                (try (have c7b3 : ¬ ((rdOf false l0 x5_1) = (rdOf false l1 x5_1)) := by simpa using c7))
                clear c7
                obtain rfl := Option.some.inj H
                have p204 : 0 ≤ (x5_1 : Int) := of_decide_eq_true (by first | (with_reducible assumption) | assumption)
                have q204 : x5_1 < (l0.length : Int) := of_decide_eq_true (by first | (with_reducible assumption) | assumption)
                obtain ⟨ad204, e204, hx204_0⟩ := Kd.at_bool HR0.out x5_1 p204 q204
                cases e204
                replace p204 := eq_true p204
                replace q204 := eq_true q204
                have p205 : 0 ≤ (x5_1 : Int) := of_decide_eq_true (by first | (with_reducible assumption) | assumption)
                have q205 : x5_1 < (l1.length : Int) := of_decide_eq_true (by first | (with_reducible assumption) | assumption)
                obtain ⟨ad205, e205, hx205_0⟩ := Kd.at_bool HR1.out x5_1 p205 q205
                cases e205
                replace p205 := eq_true p205
                replace q205 := eq_true q205
                go_wp2
                repeat (go_quiet (fail); try go_wp2)
                go_ret
                exact ⟨by first | rfl | (simp; done) | (simp [*]; done), by repeat (first | exact Drawn0.refl _ | apply Drawn0.step)⟩
              · rw [if_neg c7] at H
                have c7b0 : ((rdOf false l0 x5_1) != (rdOf false l1 x5_1)) = false := by simpa using c7
                (try (have c7b1 : decide ((rdOf false l0 x5_1) = (rdOf false l1 x5_1)) = true := by simpa using c7))
                (try (have c7b2 : ((rdOf false l0 x5_1) == (rdOf false l1 x5_1)) = true := by simpa using c7))
                clear c7
                have H' := Aside0.mk H
                clear H
                have p204 : 0 ≤ (x5_1 : Int) := of_decide_eq_true (by first | (with_reducible assumption) | assumption)
                have q204 : x5_1 < (l0.length : Int) := of_decide_eq_true (by first | (with_reducible assumption) | assumption)
                obtain ⟨ad204, e204, hx204_0⟩ := Kd.at_bool HR0.out x5_1 p204 q204
                cases e204
                replace p204 := eq_true p204
                replace q204 := eq_true q204
                have p205 : 0 ≤ (x5_1 : Int) := of_decide_eq_true (by first | (with_reducible assumption) | assumption)
                have q205 : x5_1 < (l1.length : Int) := of_decide_eq_true (by first | (with_reducible assumption) | assumption)
                obtain ⟨ad205, e205, hx205_0⟩ := Kd.at_bool HR1.out x5_1 p205 q205
                cases e205
                replace p205 := eq_true p205
                replace q205 := eq_true q205
                go_wp2
                repeat (go_quiet (fail); try go_wp2)
                go_roundg k1
                case measure => have := HK1.out; omega
                case rel => exact ⟨(wrap64 (x5_1 + 1)), (by first | rfl | (simp; done) | (simp [*]; done)), H', ⟨by have := HK1.out; omega⟩, by repeat (first | exact Drawn0.refl _ | apply Drawn0.step)⟩
            · rw [if_neg c6] at H
              exact absurd H (by simp)
          · rw [if_neg c5] at H
            exact absurd H (by simp)
        · rw [if_neg c4] at H
          have c4b0 : decide (x5_1 < (l0.length : Int)) = false := decide_eq_false c4
          clear c4
          obtain rfl := Option.some.inj H
          go_wp2
          repeat (go_quiet (fail); try go_wp2)
          go_ret
          exact ⟨by first | rfl | (simp; done) | (simp [*]; done), by repeat (first | exact Drawn0.refl _ | apply Drawn0.step)⟩
  · rw [if_neg c3] at H
    have c3b0 : ((l0.length : Int) == (l1.length : Int)) = false := beq_eq_false_iff_ne.mpr c3
    have c3b1 : ((l0.length : Int) != (l1.length : Int)) = true := bne_iff_ne.mpr c3
    have c3b2 : (l0.length == l1.length) = false := by first | simpa using c3 | (simp at c3 ⊢; omega)
    obtain rfl := Option.some.inj H
    go_enter Try.func34, Try.ntmps34
    go_wp2
    repeat (go_quiet (fail); try go_wp2)
    go_ret
    exact ⟨by first | rfl | (simp; done) | (simp [*]; done), by repeat (first | exact Drawn0.refl _ | apply Drawn0.step)⟩
end Go.Proofs.Ytalaochocmcbcaa.P
end
section
namespace Go.Proofs.Ytalaochocmcbcaa.P
open Go.RowKit Go.Proofs.YtalaochocmcbcaaW.PrintWords Go.Proofs.YtalaochocmcbcaaW.PrintLast Go.Proofs.YtalaochocmcbcaaW.PrintMore
attribute [local go_sem] max2_int min2_int max_two min_two max_three min_three max_four min_four   -- for this text's walks alone
def busbarref01_Words.l0 : Nat → List Int → List Int → Int → Option (Bool)
  | 0, _, _, _ => none
  | k + 1, x0, x1, x5 => if x5 < (x0.length : Int) then (if 0 ≤ x5 then (if x5 < (x1.length : Int) then (if (rd x0 x5) = (rd x1 x5) then (busbarref01_Words.l0 k x0 x1 (wrap64 (x5 + 1))) else (some false)) else (none)) else (none)) else (some true)
def busbarref01_Words.f (k : Nat) (l0 : List Int) (l1 : List Int) : Option (Bool) := if (l0.length : Int) = (l1.length : Int) then (busbarref01_Words.l0 k l0 l1 0) else (some false)
theorem busbarref01_Words.mono_l : ∀ k, (∀ y0 y1 y2, LeO (busbarref01_Words.l0 k y0 y1 y2) (busbarref01_Words.l0 (k + 1) y0 y1 y2))
  | 0 => fun _ _ _ r h => by simp [busbarref01_Words.l0] at h
  | k + 1 => by
    have ih0 := busbarref01_Words.mono_l k
    · intro y0 y1 y2
      unfold busbarref01_Words.l0
      repeat' first
      | (with_reducible exact ih0 _ _ _)
      | (with_reducible exact LeO.refl _)
      | (with_reducible exact LeO.none _)
      | (with_reducible refine LeO.ite ?_ ?_)
      | (with_reducible refine LeO.bind ?_ (fun _ => ?_))
      | exact ih0 _ _ _
      | exact LeO.none _
      | refine LeO.ite ?_ ?_
      | refine LeO.bind ?_ (fun _ => ?_)
theorem busbarref01_Words.mono : ∀ a0 a1 k, LeO (busbarref01_Words.f k a0 a1) (busbarref01_Words.f (k + 1) a0 a1) := by
  intro a0 a1 k
  have ih0 := busbarref01_Words.mono_l k
  unfold busbarref01_Words.f
  repeat' first
      | (with_reducible exact ih0 _ _ _)
      | (with_reducible exact LeO.refl _)
      | (with_reducible exact LeO.none _)
      | (with_reducible refine LeO.ite ?_ ?_)
      | (with_reducible refine LeO.bind ?_ (fun _ => ?_))
      | exact ih0 _ _ _
      | exact LeO.none _
      | refine LeO.ite ?_ ?_
      | refine LeO.bind ?_ (fun _ => ?_)
theorem busbarref01_Words.calls (k : Nat) (A0 : Option Addr) (c0 : Nat) (l0 : List Int) (A1 : Option Addr) (c1 : Nat) (l1 : List Int) (r : Bool) (w : World) (hr0 : Kd.C (Kd.int .u16) w A0 l0.length l0) (hc0 : l0.length ≤ c0) (hr1 : Kd.C (Kd.int .u16) w A1 l1.length l1) (hc1 : l1.length ≤ c1) (h : busbarref01_Words.f k l0 l1 = some r) :
    Calls Try.prog 33 #[.slice A0 l0.length c0, .slice A1 l1.length c1] w fun e w' => e = .returned (.bool r) ∧ Drawn0 w w' := by
  have HR0 := Aside0.mk hr0
  have HC0 := Aside0.mk hc0
  clear hr0 hc0
  have HR1 := Aside0.mk hr1
  have HC1 := Aside0.mk hc1
  clear hr1 hc1
  have H : (if (l0.length : Int) = (l1.length : Int) then (busbarref01_Words.l0 k l0 l1 0) else (some false)) = some r := h
  clear h
  by_cases c3 : (l0.length : Int) = (l1.length : Int)
  · rw [if_pos c3] at H
    have c3b0 : ((l0.length : Int) == (l1.length : Int)) = true := beq_iff_eq.mpr c3
    have c3b1 : ((l0.length : Int) != (l1.length : Int)) = false := bne_eq_false_iff_eq.mpr c3
    have c3b2 : (l0.length == l1.length) = true := by first | simpa using c3 | (simp at c3 ⊢; omega)
    clear c3
    have H' := Aside0.mk H
    clear H
    go_enter Try.func33, Try.ntmps33
    go_wp2
    repeat (go_quiet (fail); try go_wp2)
    go_loopg [5] k (fun kq v5 w' => ∃ (x5_1 : Int), v5 = .int .i64 x5_1 ∧ Aside0 (busbarref01_Words.l0 kq l0 l1 x5_1 = some r) ∧ Aside0 (kq ≤ k) ∧ Drawn0 w w')
    case atStart => exact ⟨(0), (by first | rfl | (simp; done) | (simp [*]; done)), H', ⟨Nat.le_refl _⟩, by repeat (first | exact Drawn0.refl _ | apply Drawn0.step)⟩
    case round =>
      clear H'
      try clear c1
      try clear p2
      try clear c3
      try clear c3b0
      try clear c3b1
      try clear c3b2
      obtain ⟨x5_1, rfl, HA, HK1, ⟨m1, rfl⟩⟩ := hrel
      cases gk with
      | zero => exact absurd HA.out (by simp [busbarref01_Words.l0])
      | succ k1 =>
        have H := HA.out
        clear HA
        simp only [busbarref01_Words.l0] at H
        by_cases c4 : x5_1 < (l0.length : Int)
        · rw [if_pos c4] at H
          have c4b0 : decide (x5_1 < (l0.length : Int)) = true := decide_eq_true c4
          clear c4
          by_cases c5 : 0 ≤ x5_1
          · rw [if_pos c5] at H
            have c5b0 : decide (0 ≤ x5_1) = true := decide_eq_true c5
            clear c5
            by_cases c6 : x5_1 < (l1.length : Int)
            · rw [if_pos c6] at H
              have c6b0 : decide (x5_1 < (l1.length : Int)) = true := decide_eq_true c6
              clear c6
              by_cases c7 : (rd l0 x5_1) = (rd l1 x5_1)
              · rw [if_pos c7] at H
                have c7b0 : ((rd l0 x5_1) == (rd l1 x5_1)) = true := beq_iff_eq.mpr c7
                have c7b1 : ((rd l0 x5_1) != (rd l1 x5_1)) = false := bne_eq_false_iff_eq.mpr c7
                clear c7
                have H' := Aside0.mk H
                clear H
                have p202 : 0 ≤ (x5_1 : Int) := of_decide_eq_true (by first | (with_reducible assumption) | assumption)
                have q202 : x5_1 < (l0.length : Int) := of_decide_eq_true (by first | (with_reducible assumption) | assumption)
                obtain ⟨ad202, e202, hx202_0⟩ := Kd.at_int HR0.out x5_1 p202 q202
                cases e202
                replace p202 := eq_true p202
                replace q202 := eq_true q202
                have p203 : 0 ≤ (x5_1 : Int) := of_decide_eq_true (by first | (with_reducible assumption) | assumption)
                have q203 : x5_1 < (l1.length : Int) := of_decide_eq_true (by first | (with_reducible assumption) | assumption)
                obtain ⟨ad203, e203, hx203_0⟩ := Kd.at_int HR1.out x5_1 p203 q203
                cases e203
                replace p203 := eq_true p203
                replace q203 := eq_true q203
                go_wp2
                repeat (go_quiet (fail); try go_wp2)
                go_roundg k1
                case measure => have := HK1.out; omega
                case rel => exact ⟨(wrap64 (x5_1 + 1)), (by first | rfl | (simp; done) | (simp [*]; done)), H', ⟨by have := HK1.out; omega⟩, by repeat (first | exact Drawn0.refl _ | apply Drawn0.step)⟩
              · rw [if_neg c7] at H
                have c7b0 : ((rd l0 x5_1) == (rd l1 x5_1)) = false := beq_eq_false_iff_ne.mpr c7
                have c7b1 : ((rd l0 x5_1) != (rd l1 x5_1)) = true := bne_iff_ne.mpr c7
                obtain rfl := Option.some.inj H
                have p202 : 0 ≤ (x5_1 : Int) := of_decide_eq_true (by first | (with_reducible assumption) | assumption)
                have q202 : x5_1 < (l0.length : Int) := of_decide_eq_true (by first | (with_reducible assumption) | assumption)
                obtain ⟨ad202, e202, hx202_0⟩ := Kd.at_int HR0.out x5_1 p202 q202
                cases e202
                replace p202 := eq_true p202
                replace q202 := eq_true q202
                have p203 : 0 ≤ (x5_1 : Int) := of_decide_eq_true (by first | (with_reducible assumption) | assumption)
                have q203 : x5_1 < (l1.length : Int) := of_decide_eq_true (by first | (with_reducible assumption) | assumption)
                obtain ⟨ad203, e203, hx203_0⟩ := Kd.at_int HR1.out x5_1 p203 q203
                cases e203
                replace p203 := eq_true p203
                replace q203 := eq_true q203
                go_wp2
                repeat (go_quiet (fail); try go_wp2)
                go_ret
                exact ⟨by first | rfl | (simp; done) | (simp [*]; done), by repeat (first | exact Drawn0.refl _ | apply Drawn0.step)⟩
            · rw [if_neg c6] at H
              exact absurd H (by simp)
          · rw [if_neg c5] at H
            exact absurd H (by simp)
        · rw [if_neg c4] at H
          have c4b0 : decide (x5_1 < (l0.length : Int)) = false := decide_eq_false c4
          clear c4
          obtain rfl := Option.some.inj H
          go_wp2
          repeat (go_quiet (fail); try go_wp2)
          go_ret
          exact ⟨by first | rfl | (simp; done) | (simp [*]; done), by repeat (first | exact Drawn0.refl _ | apply Drawn0.step)⟩
  · rw [if_neg c3] at H
    have c3b0 : ((l0.length : Int) == (l1.length : Int)) = false := beq_eq_false_iff_ne.mpr c3
    have c3b1 : ((l0.length : Int) != (l1.length : Int)) = true := bne_iff_ne.mpr c3
    have c3b2 : (l0.length == l1.length) = false := by first | simpa using c3 | (simp at c3 ⊢; omega)
    obtain rfl := Option.some.inj H
    go_enter Try.func33, Try.ntmps33
    go_wp2
    repeat (go_quiet (fail); try go_wp2)
    go_ret
    exact ⟨by first | rfl | (simp; done) | (simp [*]; done), by repeat (first | exact Drawn0.refl _ | apply Drawn0.step)⟩
end Go.Proofs.Ytalaochocmcbcaa.P
end
section
namespace Go.Proofs.Ytalaochocmcbcaa.P
open Go.RowKit Go.Proofs.YtalaochocmcbcaaW.PrintWords Go.Proofs.YtalaochocmcbcaaW.PrintLast Go.Proofs.YtalaochocmcbcaaW.PrintMore
attribute [local go_sem] max2_int min2_int max_two min_two max_three min_three max_four min_four   -- for this text's walks alone
def busbarref01_Same.f (l0 : List Int) (l1 : List Int) : Option (Bool) := some ((strOfNums l0).toList == (strOfNums l1).toList)
theorem busbarref01_Same.calls (A0 : Option Addr) (c0 : Nat) (l0 : List Int) (A1 : Option Addr) (c1 : Nat) (l1 : List Int) (r : Bool) (w : World) (hr0 : Kd.C (Kd.int .u8) w A0 l0.length l0) (hc0 : l0.length ≤ c0) (hr1 : Kd.C (Kd.int .u8) w A1 l1.length l1) (hc1 : l1.length ≤ c1) (h : busbarref01_Same.f l0 l1 = some r) :
    Calls Try.prog 18 #[.slice A0 l0.length c0, .slice A1 l1.length c1] w fun e w' => e = .returned (.bool r) ∧ Drawn0 w w' := by
  have HR0 := Aside0.mk hr0
  have HC0 := Aside0.mk hc0
  clear hr0 hc0
  have HR1 := Aside0.mk hr1
  have HC1 := Aside0.mk hc1
  clear hr1 hc1
  have H : (some ((strOfNums l0).toList == (strOfNums l1).toList)) = some r := h
  clear h
  obtain rfl := Option.some.inj H
  have hcv3 := Kd.C_string (P := Try.prog) (A := A0) (c := c0) Try.underlying22 Try.underlying5 Try.underlying9 HR0.out
  have hcv4 := Kd.C_string (P := Try.prog) (A := A1) (c := c1) Try.underlying22 Try.underlying5 Try.underlying9 HR1.out
  go_enter Try.func18, Try.ntmps18
  go_wp2
  go_ret
  exact ⟨by first | rfl | (simp; done) | (simp [*]; done), by repeat (first | exact Drawn0.refl _ | apply Drawn0.step)⟩
end Go.Proofs.Ytalaochocmcbcaa.P
end
section
namespace Go.Proofs.Ytalaochocmcbcaa.R01
open Go.RowKit Go.Proofs.Ytalaochocmcbcaa.P Go.Proofs.Ytalaochocmcbcaa.E Go.Proofs.YtalaochocmcbcaaW.PrintWords Go.Proofs.YtalaochocmcbcaaW.PrintLast Go.Proofs.YtalaochocmcbcaaW.PrintMore
theorem same_eq {l m : List Int} (hl : isBytes l) (hm : isBytes m) : busbarref01_Same.f l m = some (l == m) := by unfold busbarref01_Same.f; rw [str_beq hl hm]
theorem bools_loop (l m : List Bool) (hl : (l.length : Int) ≤ 9223372036854775807) (he : l.length = m.length) (d : Nat) : ∀ k i, i ≤ l.length → l.length - i = d → d < k → busbarref01_Bools.l0 k l m i = some (l.drop i == m.drop i) := by
  induction d with
  | zero =>
    intro k i h1 h2 hk
    obtain ⟨k, rfl⟩ : ∃ m, k = m + 1 := ⟨k - 1, by omega⟩
    have c : ¬ (i : Int) < (l.length : Int) := by omega
    simp only [busbarref01_Bools.l0]
    rw [if_neg c, List.drop_eq_nil_of_le (by omega), List.drop_eq_nil_of_le (by omega)]; rfl
  | succ d ih =>
    intro k i h1 h2 hk
    obtain ⟨k, rfl⟩ : ∃ m, k = m + 1 := ⟨k - 1, by omega⟩
    have c1 : (i : Int) < (l.length : Int) := by omega
    have c2 : (0 : Int) ≤ (i : Int) := by omega
    have c3 : (i : Int) < (m.length : Int) := by omega
    have d3 : (i : Int) + 1 = ((i + 1 : Nat) : Int) := by omega
    have e3 : ((i + 1 : Nat) : Int) < 9223372036854775808 := by omega
    have e4 : -9223372036854775808 ≤ ((i + 1 : Nat) : Int) := by omega
    have hn := ih k (i + 1) (by omega) (by omega) (by omega)
    rw [drop_cons (show i < l.length by omega) false, drop_cons (show i < m.length by omega) false]
    simp only [busbarref01_Bools.l0]
    rw [if_pos c1, if_pos c2, if_pos c3, d3, wrap64_id e4 e3, hn]
    have hr : ∀ x : List Bool, rdOf false x (i : Int) = x.getD i false := fun x => by simp [rdOf]
    rw [hr, hr, List.cons_beq_cons]
    generalize l.getD i false = x
    generalize m.getD i false = y
    cases x <;> cases y <;> simp
theorem bools_ev (l m : List Bool) (hl : l.length ≤ 9223372036854775807) : Ev (fun k => busbarref01_Bools.f k l m) (l == m) := by
  refine Ev.of (busbarref01_Bools.mono l m) (k := l.length + 1) ?_
  unfold busbarref01_Bools.f
  by_cases he : l.length = m.length
  · have h := bools_loop l m (by omega) he l.length (l.length + 1) 0 (by omega) (by omega) (by omega)
    rw [Int.natCast_zero] at h
    rw [if_pos (by rw [he]), h]; rfl
  · rw [if_neg (fun h => he (by omega))]
    congr 1
    symm
    rw [beq_eq_false_iff_ne]
    exact fun h => he (by rw [h])
theorem words_loop (l m : List Int) (hl : (l.length : Int) ≤ 9223372036854775807) (he : l.length = m.length) (d : Nat) : ∀ k i, i ≤ l.length → l.length - i = d → d < k → busbarref01_Words.l0 k l m i = some (l.drop i == m.drop i) := by
  induction d with
  | zero =>
    intro k i h1 h2 hk
    obtain ⟨k, rfl⟩ : ∃ m, k = m + 1 := ⟨k - 1, by omega⟩
    have c : ¬ (i : Int) < (l.length : Int) := by omega
    simp only [busbarref01_Words.l0]
    rw [if_neg c, List.drop_eq_nil_of_le (by omega), List.drop_eq_nil_of_le (by omega)]; rfl
  | succ d ih =>
    intro k i h1 h2 hk
    obtain ⟨k, rfl⟩ : ∃ m, k = m + 1 := ⟨k - 1, by omega⟩
    have c1 : (i : Int) < (l.length : Int) := by omega
    have c2 : (0 : Int) ≤ (i : Int) := by omega
    have c3 : (i : Int) < (m.length : Int) := by omega
    have d3 : (i : Int) + 1 = ((i + 1 : Nat) : Int) := by omega
    have e3 : ((i + 1 : Nat) : Int) < 9223372036854775808 := by omega
    have e4 : -9223372036854775808 ≤ ((i + 1 : Nat) : Int) := by omega
    have hn := ih k (i + 1) (by omega) (by omega) (by omega)
    rw [drop_cons (show i < l.length by omega) 0, drop_cons (show i < m.length by omega) 0]
    simp only [busbarref01_Words.l0]
    rw [if_pos c1, if_pos c2, if_pos c3, d3, wrap64_id e4 e3, hn]
    have hr : ∀ x : List Int, rd x (i : Int) = x.getD i 0 := fun x => by simp [rd]
    rw [hr, hr, List.cons_beq_cons]
    generalize l.getD i 0 = x
    generalize m.getD i 0 = y
    by_cases h : x = y
    · subst h; simp
    · simp [h]
theorem words_ev (l m : List Int) (hl : l.length ≤ 9223372036854775807) : Ev (fun k => busbarref01_Words.f k l m) (l == m) := by
  refine Ev.of (busbarref01_Words.mono l m) (k := l.length + 1) ?_
  unfold busbarref01_Words.f
  by_cases he : l.length = m.length
  · have h := words_loop l m (by omega) he l.length (l.length + 1) 0 (by omega) (by omega) (by omega)
    rw [Int.natCast_zero] at h
    rw [if_pos (by rw [he]), h]; rfl
  · rw [if_neg (fun h => he (by omega))]
    congr 1
    symm
    rw [beq_eq_false_iff_ne]
    exact fun h => he (by rw [h])
theorem same_c {l m : List Int} (hl : isBytes l) (hm : isBytes m) {A B : Option Addr} {c d : Nat} {W : World} (rl : Kd.C (Kd.int .u8) W A l.length l) (zl : l.length ≤ c) (rm : Kd.C (Kd.int .u8) W B m.length m) (zm : m.length ≤ d) :
    Calls Try.prog 18 #[.slice A l.length c, .slice B m.length d] W fun e w' => e = .returned (.bool (l == m)) ∧ Below W.heap.size W w' := by
  refine (busbarref01_Same.calls A c l B d m _ W rl zl rm zm (same_eq hl hm)).mono ?_
  rintro e w' ⟨rfl, n, rfl⟩
  exact ⟨rfl, pw_below_drewN (Below.refl _ _) _⟩
theorem bools_c {l m : List Bool} (hl : l.length ≤ 9223372036854775807) {A B : Option Addr} {c d : Nat} {W : World} (rl : Kd.C Kd.bool W A l.length l) (zl : l.length ≤ c) (rm : Kd.C Kd.bool W B m.length m) (zm : m.length ≤ d) :
    Calls Try.prog 34 #[.slice A l.length c, .slice B m.length d] W fun e w' => e = .returned (.bool (l == m)) ∧ Below W.heap.size W w' := by
  obtain ⟨k, hk⟩ := (bools_ev l m hl).rounds
  refine (busbarref01_Bools.calls k A c l B d m _ W rl zl rm zm hk).mono ?_
  rintro e w' ⟨rfl, n, rfl⟩
  exact ⟨rfl, pw_below_drewN (Below.refl _ _) _⟩
theorem words_c {l m : List Int} (hl : l.length ≤ 9223372036854775807) {A B : Option Addr} {c d : Nat} {W : World} (rl : Kd.C (Kd.int .u16) W A l.length l) (zl : l.length ≤ c) (rm : Kd.C (Kd.int .u16) W B m.length m) (zm : m.length ≤ d) :
    Calls Try.prog 33 #[.slice A l.length c, .slice B m.length d] W fun e w' => e = .returned (.bool (l == m)) ∧ Below W.heap.size W w' := by
  obtain ⟨k, hk⟩ := (words_ev l m hl).rounds
  refine (busbarref01_Words.calls k A c l B d m _ W rl zl rm zm hk).mono ?_
  rintro e w' ⟨rfl, n, rfl⟩
  exact ⟨rfl, pw_below_drewN (Below.refl _ _) _⟩
end Go.Proofs.Ytalaochocmcbcaa.R01
end
section
namespace Go.Proofs.Ytalaochocmcbcaa.Same
open Go.RowKit Go.Proofs.Ytalaochocmcbcaa.P Go.Proofs.Ytalaochocmcbcaa.E Go.Proofs.YtalaochocmcbcaaW.PrintWords Go.Proofs.YtalaochocmcbcaaW.PrintLast Go.Proofs.YtalaochocmcbcaaW.PrintMore
theorem box_x0 (w : World) (cx cy : Array Value) (t : TypeId) (j : Nat) : ((w.alloc (.cells cx t)).alloc (.cells cy t)).cell? ⟨w.heap.size, j, none⟩ = cx[j]? := by
  rw [World.cell?_alloc_lt _ _ _ (by show w.heap.size < (w.alloc (.cells cx t)).heap.size; simp)]
  unfold World.cell?
  rw [heap_alloc_new w (.cells cx t)]; rfl
theorem box_y0 (w : World) (cx cy : Array Value) (t : TypeId) (j : Nat) : ((w.alloc (.cells cx t)).alloc (.cells cy t)).cell? ⟨w.heap.size + 1, j, none⟩ = cy[j]? := by
  have h := heap_alloc_new (w.alloc (.cells cx t)) (.cells cy t)
  rw [show (w.alloc (.cells cx t)).heap.size = w.heap.size + 1 by simp] at h
  unfold World.cell?
  rw [h]; rfl
structure SD (P : Program) (O : Array Oper) (Q : Exit → Act → World → Prop) (L : List Oper) (a : Act) (W : World) : Prop where
  out : wpList P O Q L a W
section
variable {P : Program} {L : List Oper} {O : Array Oper} {o oj : Oper} {a a' : Act} {Q : Exit → Act → World → Prop} {W : World} {v : Value} {N : Option Tmp}
theorem sd_nil (h : Q .normal a W) : SD P O Q [] a W := ⟨wpList_nil h⟩
theorem sd_val (k : Nat) (ho : L[k]? = some o) (hg : o.guard = none) (hN : o.dst = N) (hrun : (execOp a.eval o).run P W = .ok (.value v) W) (ha : a.put N v = a') (h : SD P O Q (L.drop (k + 1)) a' W) : SD P O Q (L.drop k) a W := by
  subst ha
  subst hN
  obtain ⟨hk, rfl⟩ := List.getElem?_eq_some_iff.1 ho
  refine ⟨?_⟩
  rw [List.drop_eq_getElem_cons hk]
  exact Kd.event_run hg hrun h.out
theorem sd_wanted (j s : Nat) {b b' : Bool} (hL : O.toList = L) (hg : o.guard = some (j, b)) (hj : L[j]? = some oj) (hd : oj.dst = some s) (hs : a.tmps[s]? = some (.bool b')) : Region.wanted o (yielded O a.tmps) = (b' == b) := by
  have hO : (O[j]?).bind (·.dst) = some s := by
    rw [← Array.getElem?_toList, hL, hj]; exact hd
  unfold Region.wanted
  rw [hg]
  show (yielded O a.tmps j == some b) = _
  unfold yielded
  rw [hO]
  simp only [Option.bind_some, hs]
  cases b' <;> cases b <;> rfl
theorem sd_skip (k j s : Nat) (b b' : Bool) (hL : O.toList = L) (ho : L[k]? = some o) (hj : L[j]? = some oj) (hg : o.guard = some (j, b)) (hN : o.dst = N) (hd : oj.dst = some s) (hs : a.tmps[s]? = some (.bool b')) (hb : (b' == b) = false) (ha : a.put N undef = a') (h : SD P O Q (L.drop (k + 1)) a' W) : SD P O Q (L.drop k) a W := by
  subst ha
  subst hN
  obtain ⟨hk, rfl⟩ := List.getElem?_eq_some_iff.1 ho
  refine ⟨?_⟩
  rw [List.drop_eq_getElem_cons hk]
  exact skip_guard ((sd_wanted j s hL hg hj hd hs).trans hb) h.out
theorem sd_gate (k j s : Nat) (b b' : Bool) (hL : O.toList = L) (ho : L[k]? = some o) (hj : L[j]? = some oj) (hg : o.guard = some (j, b)) (hN : o.dst = N) (hd : oj.dst = some s) (hs : a.tmps[s]? = some (.bool b')) (hb : (b' == b) = true) (hrun : (execOp a.eval { o with guard := none }).run P W = .ok (.value v) W) (ha : a.put N v = a') (h : SD P O Q (L.drop (k + 1)) a' W) : SD P O Q (L.drop k) a W := by
  subst ha
  subst hN
  obtain ⟨hk, rfl⟩ := List.getElem?_eq_some_iff.1 ho
  refine ⟨?_⟩
  rw [List.drop_eq_getElem_cons hk]
  exact gate_guard ((sd_wanted j s hL hg hj hd hs).trans hb) (Kd.event_run rfl hrun h.out)
end
noncomputable def rops1 : List Oper := (opsOf Try.f14 1).toList
theorem rops1_0 : rops1[0]? = some { dst := some 14, op := Op.fieldAddr 30 (Operand.tmp 2) 0, type := 0, pos := "ref.go:32", after := #[], guard := none } := by kernel_rfl
theorem rops1_1 : rops1[1]? = some { dst := some 15, op := Op.load 5 (Operand.tmp 14), type := 5, pos := "ref.go:32", after := #[{ on := 0, ground := Ground.data }], guard := none } := by kernel_rfl
theorem rops1_2 : rops1[2]? = some { dst := some 16, op := Op.fieldAddr 30 (Operand.tmp 3) 0, type := 0, pos := "ref.go:32", after := #[], guard := none } := by kernel_rfl
theorem rops1_3 : rops1[3]? = some { dst := some 17, op := Op.load 5 (Operand.tmp 16), type := 5, pos := "ref.go:32", after := #[{ on := 2, ground := Ground.data }], guard := none } := by kernel_rfl
theorem rops1_4 : rops1[4]? = some { dst := some 18, op := Op.binOp BinOp.neq 5 (Operand.tmp 15) (Operand.tmp 17) 5, type := 4, pos := "ref.go:32", after := #[{ on := 1, ground := Ground.data }, { on := 3, ground := Ground.data }], guard := none } := by kernel_rfl
theorem rops1_5 : rops1[5]? = some { dst := some 19, op := Op.move (Operand.tmp 18), type := 4, pos := "ref.go:32", after := #[{ on := 4, ground := Ground.data }], guard := none } := by kernel_rfl
theorem rops1_6 : rops1[6]? = some { dst := some 20, op := Op.fieldAddr 30 (Operand.tmp 2) 1, type := 0, pos := "ref.go:32", after := #[{ on := 5, ground := Ground.guard }], guard := some (5, false) } := by kernel_rfl
theorem rops1_7 : rops1[7]? = some { dst := some 21, op := Op.load 5 (Operand.tmp 20), type := 5, pos := "ref.go:32", after := #[{ on := 6, ground := Ground.data }, { on := 5, ground := Ground.guard }], guard := some (5, false) } := by kernel_rfl
theorem rops1_8 : rops1[8]? = some { dst := some 22, op := Op.fieldAddr 30 (Operand.tmp 3) 1, type := 0, pos := "ref.go:32", after := #[{ on := 5, ground := Ground.guard }], guard := some (5, false) } := by kernel_rfl
theorem rops1_9 : rops1[9]? = some { dst := some 23, op := Op.load 5 (Operand.tmp 22), type := 5, pos := "ref.go:32", after := #[{ on := 8, ground := Ground.data }, { on := 5, ground := Ground.guard }], guard := some (5, false) } := by kernel_rfl
theorem rops1_10 : rops1[10]? = some { dst := some 24, op := Op.binOp BinOp.neq 5 (Operand.tmp 21) (Operand.tmp 23) 5, type := 4, pos := "ref.go:32", after := #[{ on := 7, ground := Ground.data }, { on := 9, ground := Ground.data }, { on := 5, ground := Ground.guard }], guard := some (5, false) } := by kernel_rfl
theorem rops1_11 : rops1[11]? = some { dst := some 25, op := Op.pick (Operand.tmp 19) (Operand.const (Value.bool true)) (Operand.tmp 24), type := 4, pos := "ref.go:32", after := #[{ on := 5, ground := Ground.data }, { on := 10, ground := Ground.data }], guard := none } := by kernel_rfl
theorem rops1_12 : rops1[12]? = some { dst := some 26, op := Op.move (Operand.tmp 25), type := 4, pos := "ref.go:32", after := #[{ on := 11, ground := Ground.data }, { on := 5, ground := Ground.chain }], guard := none } := by kernel_rfl
theorem rops1_13 : rops1[13]? = some { dst := some 27, op := Op.fieldAddr 30 (Operand.tmp 2) 2, type := 0, pos := "ref.go:32", after := #[{ on := 12, ground := Ground.guard }], guard := some (12, false) } := by kernel_rfl
theorem rops1_14 : rops1[14]? = some { dst := some 28, op := Op.load 24 (Operand.tmp 27), type := 24, pos := "ref.go:32", after := #[{ on := 13, ground := Ground.data }, { on := 12, ground := Ground.guard }], guard := some (12, false) } := by kernel_rfl
theorem rops1_15 : rops1[15]? = some { dst := some 29, op := Op.fieldAddr 30 (Operand.tmp 3) 2, type := 0, pos := "ref.go:32", after := #[{ on := 12, ground := Ground.guard }], guard := some (12, false) } := by kernel_rfl
theorem rops1_16 : rops1[16]? = some { dst := some 30, op := Op.load 24 (Operand.tmp 29), type := 24, pos := "ref.go:32", after := #[{ on := 15, ground := Ground.data }, { on := 12, ground := Ground.guard }], guard := some (12, false) } := by kernel_rfl
theorem rops1_17 : rops1[17]? = some { dst := some 31, op := Op.binOp BinOp.neq 24 (Operand.tmp 28) (Operand.tmp 30) 24, type := 4, pos := "ref.go:32", after := #[{ on := 14, ground := Ground.data }, { on := 16, ground := Ground.data }, { on := 12, ground := Ground.guard }], guard := some (12, false) } := by kernel_rfl
theorem rops1_18 : rops1[18]? = some { dst := some 32, op := Op.pick (Operand.tmp 26) (Operand.const (Value.bool true)) (Operand.tmp 31), type := 4, pos := "ref.go:32", after := #[{ on := 12, ground := Ground.data }, { on := 17, ground := Ground.data }], guard := none } := by kernel_rfl
theorem rops1_19 : rops1[19]? = some { dst := some 33, op := Op.move (Operand.tmp 32), type := 4, pos := "ref.go:32", after := #[{ on := 18, ground := Ground.data }, { on := 12, ground := Ground.chain }], guard := none } := by kernel_rfl
theorem rops1_20 : rops1[20]? = some { dst := some 34, op := Op.fieldAddr 30 (Operand.tmp 2) 3, type := 0, pos := "ref.go:32", after := #[{ on := 19, ground := Ground.guard }], guard := some (19, false) } := by kernel_rfl
theorem rops1_21 : rops1[21]? = some { dst := some 35, op := Op.load 24 (Operand.tmp 34), type := 24, pos := "ref.go:32", after := #[{ on := 20, ground := Ground.data }, { on := 19, ground := Ground.guard }], guard := some (19, false) } := by kernel_rfl
theorem rops1_22 : rops1[22]? = some { dst := some 36, op := Op.fieldAddr 30 (Operand.tmp 3) 3, type := 0, pos := "ref.go:32", after := #[{ on := 19, ground := Ground.guard }], guard := some (19, false) } := by kernel_rfl
theorem rops1_23 : rops1[23]? = some { dst := some 37, op := Op.load 24 (Operand.tmp 36), type := 24, pos := "ref.go:32", after := #[{ on := 22, ground := Ground.data }, { on := 19, ground := Ground.guard }], guard := some (19, false) } := by kernel_rfl
theorem rops1_24 : rops1[24]? = some { dst := some 38, op := Op.binOp BinOp.neq 24 (Operand.tmp 35) (Operand.tmp 37) 24, type := 4, pos := "ref.go:32", after := #[{ on := 21, ground := Ground.data }, { on := 23, ground := Ground.data }, { on := 19, ground := Ground.guard }], guard := some (19, false) } := by kernel_rfl
theorem rops1_25 : rops1[25]? = some { dst := some 39, op := Op.pick (Operand.tmp 33) (Operand.const (Value.bool true)) (Operand.tmp 38), type := 4, pos := "ref.go:32", after := #[{ on := 19, ground := Ground.data }, { on := 24, ground := Ground.data }], guard := none } := by kernel_rfl
theorem rops1_26 : rops1[26]? = some { dst := some 40, op := Op.move (Operand.tmp 39), type := 4, pos := "ref.go:32", after := #[{ on := 25, ground := Ground.data }, { on := 19, ground := Ground.chain }], guard := none } := by kernel_rfl
theorem rops1_27 : rops1[27]? = some { dst := some 41, op := Op.fieldAddr 30 (Operand.tmp 2) 4, type := 0, pos := "ref.go:32", after := #[{ on := 26, ground := Ground.guard }], guard := some (26, false) } := by kernel_rfl
theorem rops1_28 : rops1[28]? = some { dst := some 42, op := Op.load 24 (Operand.tmp 41), type := 24, pos := "ref.go:32", after := #[{ on := 27, ground := Ground.data }, { on := 26, ground := Ground.guard }], guard := some (26, false) } := by kernel_rfl
theorem rops1_29 : rops1[29]? = some { dst := some 43, op := Op.fieldAddr 30 (Operand.tmp 3) 4, type := 0, pos := "ref.go:32", after := #[{ on := 26, ground := Ground.guard }], guard := some (26, false) } := by kernel_rfl
theorem rops1_30 : rops1[30]? = some { dst := some 44, op := Op.load 24 (Operand.tmp 43), type := 24, pos := "ref.go:32", after := #[{ on := 29, ground := Ground.data }, { on := 26, ground := Ground.guard }], guard := some (26, false) } := by kernel_rfl
theorem rops1_31 : rops1[31]? = some { dst := some 45, op := Op.binOp BinOp.neq 24 (Operand.tmp 42) (Operand.tmp 44) 24, type := 4, pos := "ref.go:32", after := #[{ on := 28, ground := Ground.data }, { on := 30, ground := Ground.data }, { on := 26, ground := Ground.guard }], guard := some (26, false) } := by kernel_rfl
theorem rops1_32 : rops1[32]? = some { dst := some 46, op := Op.pick (Operand.tmp 40) (Operand.const (Value.bool true)) (Operand.tmp 45), type := 4, pos := "ref.go:32", after := #[{ on := 26, ground := Ground.data }, { on := 31, ground := Ground.data }], guard := none } := by kernel_rfl
theorem rops1_33 : rops1[33]? = some { dst := some 47, op := Op.move (Operand.tmp 46), type := 4, pos := "ref.go:32", after := #[{ on := 32, ground := Ground.data }, { on := 26, ground := Ground.chain }], guard := none } := by kernel_rfl
theorem rops1_34 : rops1[34]? = some { dst := some 48, op := Op.fieldAddr 30 (Operand.tmp 2) 5, type := 0, pos := "ref.go:32", after := #[{ on := 33, ground := Ground.guard }], guard := some (33, false) } := by kernel_rfl
theorem rops1_35 : rops1[35]? = some { dst := some 49, op := Op.load 24 (Operand.tmp 48), type := 24, pos := "ref.go:32", after := #[{ on := 34, ground := Ground.data }, { on := 33, ground := Ground.guard }], guard := some (33, false) } := by kernel_rfl
theorem rops1_36 : rops1[36]? = some { dst := some 50, op := Op.fieldAddr 30 (Operand.tmp 3) 5, type := 0, pos := "ref.go:32", after := #[{ on := 33, ground := Ground.guard }], guard := some (33, false) } := by kernel_rfl
theorem rops1_37 : rops1[37]? = some { dst := some 51, op := Op.load 24 (Operand.tmp 50), type := 24, pos := "ref.go:32", after := #[{ on := 36, ground := Ground.data }, { on := 33, ground := Ground.guard }], guard := some (33, false) } := by kernel_rfl
theorem rops1_38 : rops1[38]? = some { dst := some 52, op := Op.binOp BinOp.neq 24 (Operand.tmp 49) (Operand.tmp 51) 24, type := 4, pos := "ref.go:32", after := #[{ on := 35, ground := Ground.data }, { on := 37, ground := Ground.data }, { on := 33, ground := Ground.guard }], guard := some (33, false) } := by kernel_rfl
theorem rops1_39 : rops1[39]? = some { dst := some 53, op := Op.pick (Operand.tmp 47) (Operand.const (Value.bool true)) (Operand.tmp 52), type := 4, pos := "ref.go:32", after := #[{ on := 33, ground := Ground.data }, { on := 38, ground := Ground.data }], guard := none } := by kernel_rfl
theorem rops1_40 : rops1[40]? = some { dst := some 54, op := Op.move (Operand.tmp 53), type := 4, pos := "ref.go:32", after := #[{ on := 39, ground := Ground.data }, { on := 33, ground := Ground.chain }], guard := none } := by kernel_rfl
theorem rops1_41 : rops1[41]? = some { dst := some 55, op := Op.fieldAddr 30 (Operand.tmp 2) 6, type := 0, pos := "ref.go:32", after := #[{ on := 40, ground := Ground.guard }], guard := some (40, false) } := by kernel_rfl
theorem rops1_42 : rops1[42]? = some { dst := some 56, op := Op.load 24 (Operand.tmp 55), type := 24, pos := "ref.go:32", after := #[{ on := 41, ground := Ground.data }, { on := 40, ground := Ground.guard }], guard := some (40, false) } := by kernel_rfl
theorem rops1_43 : rops1[43]? = some { dst := some 57, op := Op.fieldAddr 30 (Operand.tmp 3) 6, type := 0, pos := "ref.go:32", after := #[{ on := 40, ground := Ground.guard }], guard := some (40, false) } := by kernel_rfl
theorem rops1_44 : rops1[44]? = some { dst := some 58, op := Op.load 24 (Operand.tmp 57), type := 24, pos := "ref.go:32", after := #[{ on := 43, ground := Ground.data }, { on := 40, ground := Ground.guard }], guard := some (40, false) } := by kernel_rfl
theorem rops1_45 : rops1[45]? = some { dst := some 59, op := Op.binOp BinOp.neq 24 (Operand.tmp 56) (Operand.tmp 58) 24, type := 4, pos := "ref.go:32", after := #[{ on := 42, ground := Ground.data }, { on := 44, ground := Ground.data }, { on := 40, ground := Ground.guard }], guard := some (40, false) } := by kernel_rfl
theorem rops1_46 : rops1[46]? = some { dst := some 60, op := Op.pick (Operand.tmp 54) (Operand.const (Value.bool true)) (Operand.tmp 59), type := 4, pos := "ref.go:32", after := #[{ on := 40, ground := Ground.data }, { on := 45, ground := Ground.data }], guard := none } := by kernel_rfl
theorem rops1_47 : rops1[47]? = some { dst := some 61, op := Op.move (Operand.tmp 60), type := 4, pos := "ref.go:32", after := #[{ on := 46, ground := Ground.data }, { on := 40, ground := Ground.chain }], guard := none } := by kernel_rfl
theorem rops1_48 : rops1[48]? = some { dst := some 62, op := Op.fieldAddr 30 (Operand.tmp 2) 7, type := 0, pos := "ref.go:32", after := #[{ on := 47, ground := Ground.guard }], guard := some (47, false) } := by kernel_rfl
theorem rops1_49 : rops1[49]? = some { dst := some 63, op := Op.load 24 (Operand.tmp 62), type := 24, pos := "ref.go:32", after := #[{ on := 48, ground := Ground.data }, { on := 47, ground := Ground.guard }], guard := some (47, false) } := by kernel_rfl
theorem rops1_50 : rops1[50]? = some { dst := some 64, op := Op.fieldAddr 30 (Operand.tmp 3) 7, type := 0, pos := "ref.go:32", after := #[{ on := 47, ground := Ground.guard }], guard := some (47, false) } := by kernel_rfl
theorem rops1_51 : rops1[51]? = some { dst := some 65, op := Op.load 24 (Operand.tmp 64), type := 24, pos := "ref.go:32", after := #[{ on := 50, ground := Ground.data }, { on := 47, ground := Ground.guard }], guard := some (47, false) } := by kernel_rfl
theorem rops1_52 : rops1[52]? = some { dst := some 66, op := Op.binOp BinOp.neq 24 (Operand.tmp 63) (Operand.tmp 65) 24, type := 4, pos := "ref.go:32", after := #[{ on := 49, ground := Ground.data }, { on := 51, ground := Ground.data }, { on := 47, ground := Ground.guard }], guard := some (47, false) } := by kernel_rfl
theorem rops1_53 : rops1[53]? = some { dst := some 67, op := Op.pick (Operand.tmp 61) (Operand.const (Value.bool true)) (Operand.tmp 66), type := 4, pos := "ref.go:32", after := #[{ on := 47, ground := Ground.data }, { on := 52, ground := Ground.data }], guard := none } := by kernel_rfl
theorem rops1_54 : rops1[54]? = some { dst := some 68, op := Op.move (Operand.tmp 67), type := 4, pos := "ref.go:32", after := #[{ on := 53, ground := Ground.data }, { on := 47, ground := Ground.chain }], guard := none } := by kernel_rfl
theorem rops1_55 : rops1[55]? = some { dst := some 69, op := Op.fieldAddr 30 (Operand.tmp 2) 8, type := 0, pos := "ref.go:32", after := #[{ on := 54, ground := Ground.guard }], guard := some (54, false) } := by kernel_rfl
theorem rops1_56 : rops1[56]? = some { dst := some 70, op := Op.load 24 (Operand.tmp 69), type := 24, pos := "ref.go:32", after := #[{ on := 55, ground := Ground.data }, { on := 54, ground := Ground.guard }], guard := some (54, false) } := by kernel_rfl
theorem rops1_57 : rops1[57]? = some { dst := some 71, op := Op.fieldAddr 30 (Operand.tmp 3) 8, type := 0, pos := "ref.go:32", after := #[{ on := 54, ground := Ground.guard }], guard := some (54, false) } := by kernel_rfl
theorem rops1_58 : rops1[58]? = some { dst := some 72, op := Op.load 24 (Operand.tmp 71), type := 24, pos := "ref.go:32", after := #[{ on := 57, ground := Ground.data }, { on := 54, ground := Ground.guard }], guard := some (54, false) } := by kernel_rfl
theorem rops1_59 : rops1[59]? = some { dst := some 73, op := Op.binOp BinOp.neq 24 (Operand.tmp 70) (Operand.tmp 72) 24, type := 4, pos := "ref.go:32", after := #[{ on := 56, ground := Ground.data }, { on := 58, ground := Ground.data }, { on := 54, ground := Ground.guard }], guard := some (54, false) } := by kernel_rfl
theorem rops1_60 : rops1[60]? = some { dst := some 74, op := Op.pick (Operand.tmp 68) (Operand.const (Value.bool true)) (Operand.tmp 73), type := 4, pos := "ref.go:32", after := #[{ on := 54, ground := Ground.data }, { on := 59, ground := Ground.data }], guard := none } := by kernel_rfl
theorem rops1_61 : rops1[61]? = some { dst := some 75, op := Op.move (Operand.tmp 74), type := 4, pos := "ref.go:32", after := #[{ on := 60, ground := Ground.data }, { on := 54, ground := Ground.chain }], guard := none } := by kernel_rfl
theorem rops1_62 : rops1[62]? = some { dst := some 76, op := Op.fieldAddr 30 (Operand.tmp 2) 9, type := 0, pos := "ref.go:32", after := #[{ on := 61, ground := Ground.guard }], guard := some (61, false) } := by kernel_rfl
theorem rops1_63 : rops1[63]? = some { dst := some 77, op := Op.load 24 (Operand.tmp 76), type := 24, pos := "ref.go:32", after := #[{ on := 62, ground := Ground.data }, { on := 61, ground := Ground.guard }], guard := some (61, false) } := by kernel_rfl
theorem rops1_64 : rops1[64]? = some { dst := some 78, op := Op.fieldAddr 30 (Operand.tmp 3) 9, type := 0, pos := "ref.go:32", after := #[{ on := 61, ground := Ground.guard }], guard := some (61, false) } := by kernel_rfl
theorem rops1_65 : rops1[65]? = some { dst := some 79, op := Op.load 24 (Operand.tmp 78), type := 24, pos := "ref.go:32", after := #[{ on := 64, ground := Ground.data }, { on := 61, ground := Ground.guard }], guard := some (61, false) } := by kernel_rfl
theorem rops1_66 : rops1[66]? = some { dst := some 80, op := Op.binOp BinOp.neq 24 (Operand.tmp 77) (Operand.tmp 79) 24, type := 4, pos := "ref.go:32", after := #[{ on := 63, ground := Ground.data }, { on := 65, ground := Ground.data }, { on := 61, ground := Ground.guard }], guard := some (61, false) } := by kernel_rfl
theorem rops1_67 : rops1[67]? = some { dst := some 81, op := Op.pick (Operand.tmp 75) (Operand.const (Value.bool true)) (Operand.tmp 80), type := 4, pos := "ref.go:32", after := #[{ on := 61, ground := Ground.data }, { on := 66, ground := Ground.data }], guard := none } := by kernel_rfl
theorem rops1_68 : rops1[68]? = some { dst := some 82, op := Op.move (Operand.tmp 81), type := 4, pos := "ref.go:32", after := #[{ on := 67, ground := Ground.data }, { on := 61, ground := Ground.chain }], guard := none } := by kernel_rfl
theorem rops1_69 : rops1[69]? = some { dst := some 83, op := Op.fieldAddr 30 (Operand.tmp 2) 10, type := 0, pos := "ref.go:32", after := #[{ on := 68, ground := Ground.guard }], guard := some (68, false) } := by kernel_rfl
theorem rops1_70 : rops1[70]? = some { dst := some 84, op := Op.load 24 (Operand.tmp 83), type := 24, pos := "ref.go:32", after := #[{ on := 69, ground := Ground.data }, { on := 68, ground := Ground.guard }], guard := some (68, false) } := by kernel_rfl
theorem rops1_71 : rops1[71]? = some { dst := some 85, op := Op.fieldAddr 30 (Operand.tmp 3) 10, type := 0, pos := "ref.go:32", after := #[{ on := 68, ground := Ground.guard }], guard := some (68, false) } := by kernel_rfl
theorem rops1_72 : rops1[72]? = some { dst := some 86, op := Op.load 24 (Operand.tmp 85), type := 24, pos := "ref.go:32", after := #[{ on := 71, ground := Ground.data }, { on := 68, ground := Ground.guard }], guard := some (68, false) } := by kernel_rfl
theorem rops1_73 : rops1[73]? = some { dst := some 87, op := Op.binOp BinOp.neq 24 (Operand.tmp 84) (Operand.tmp 86) 24, type := 4, pos := "ref.go:32", after := #[{ on := 70, ground := Ground.data }, { on := 72, ground := Ground.data }, { on := 68, ground := Ground.guard }], guard := some (68, false) } := by kernel_rfl
theorem rops1_74 : rops1[74]? = some { dst := some 88, op := Op.pick (Operand.tmp 82) (Operand.const (Value.bool true)) (Operand.tmp 87), type := 4, pos := "ref.go:32", after := #[{ on := 68, ground := Ground.data }, { on := 73, ground := Ground.data }], guard := none } := by kernel_rfl
theorem rops1_75 : rops1[75]? = some { dst := some 89, op := Op.move (Operand.tmp 88), type := 4, pos := "ref.go:32", after := #[{ on := 74, ground := Ground.data }, { on := 68, ground := Ground.chain }], guard := none } := by kernel_rfl
theorem rops1_76 : rops1[76]? = some { dst := some 90, op := Op.fieldAddr 30 (Operand.tmp 2) 11, type := 0, pos := "ref.go:32", after := #[{ on := 75, ground := Ground.guard }], guard := some (75, false) } := by kernel_rfl
theorem rops1_77 : rops1[77]? = some { dst := some 91, op := Op.load 24 (Operand.tmp 90), type := 24, pos := "ref.go:32", after := #[{ on := 76, ground := Ground.data }, { on := 75, ground := Ground.guard }], guard := some (75, false) } := by kernel_rfl
theorem rops1_78 : rops1[78]? = some { dst := some 92, op := Op.fieldAddr 30 (Operand.tmp 3) 11, type := 0, pos := "ref.go:32", after := #[{ on := 75, ground := Ground.guard }], guard := some (75, false) } := by kernel_rfl
theorem rops1_79 : rops1[79]? = some { dst := some 93, op := Op.load 24 (Operand.tmp 92), type := 24, pos := "ref.go:32", after := #[{ on := 78, ground := Ground.data }, { on := 75, ground := Ground.guard }], guard := some (75, false) } := by kernel_rfl
theorem rops1_80 : rops1[80]? = some { dst := some 94, op := Op.binOp BinOp.neq 24 (Operand.tmp 91) (Operand.tmp 93) 24, type := 4, pos := "ref.go:32", after := #[{ on := 77, ground := Ground.data }, { on := 79, ground := Ground.data }, { on := 75, ground := Ground.guard }], guard := some (75, false) } := by kernel_rfl
theorem rops1_81 : rops1[81]? = some { dst := some 95, op := Op.pick (Operand.tmp 89) (Operand.const (Value.bool true)) (Operand.tmp 94), type := 4, pos := "ref.go:32", after := #[{ on := 75, ground := Ground.data }, { on := 80, ground := Ground.data }], guard := none } := by kernel_rfl
noncomputable def rops3 : List Oper := (opsOf Try.f14 3).toList
theorem rops3_0 : rops3[0]? = some { dst := some 96, op := Op.fieldAddr 30 (Operand.tmp 2) 16, type := 0, pos := "ref.go:35", after := #[], guard := none } := by kernel_rfl
theorem rops3_1 : rops3[1]? = some { dst := some 97, op := Op.load 5 (Operand.tmp 96), type := 5, pos := "ref.go:35", after := #[{ on := 0, ground := Ground.data }], guard := none } := by kernel_rfl
theorem rops3_2 : rops3[2]? = some { dst := some 98, op := Op.fieldAddr 30 (Operand.tmp 3) 16, type := 0, pos := "ref.go:35", after := #[], guard := none } := by kernel_rfl
theorem rops3_3 : rops3[3]? = some { dst := some 99, op := Op.load 5 (Operand.tmp 98), type := 5, pos := "ref.go:35", after := #[{ on := 2, ground := Ground.data }], guard := none } := by kernel_rfl
theorem rops3_4 : rops3[4]? = some { dst := some 100, op := Op.binOp BinOp.neq 5 (Operand.tmp 97) (Operand.tmp 99) 5, type := 4, pos := "ref.go:35", after := #[{ on := 1, ground := Ground.data }, { on := 3, ground := Ground.data }], guard := none } := by kernel_rfl
theorem rops3_5 : rops3[5]? = some { dst := some 101, op := Op.move (Operand.tmp 100), type := 4, pos := "ref.go:35", after := #[{ on := 4, ground := Ground.data }], guard := none } := by kernel_rfl
theorem rops3_6 : rops3[6]? = some { dst := some 102, op := Op.fieldAddr 30 (Operand.tmp 2) 17, type := 0, pos := "ref.go:35", after := #[{ on := 5, ground := Ground.guard }], guard := some (5, false) } := by kernel_rfl
theorem rops3_7 : rops3[7]? = some { dst := some 103, op := Op.load 5 (Operand.tmp 102), type := 5, pos := "ref.go:35", after := #[{ on := 6, ground := Ground.data }, { on := 5, ground := Ground.guard }], guard := some (5, false) } := by kernel_rfl
theorem rops3_8 : rops3[8]? = some { dst := some 104, op := Op.fieldAddr 30 (Operand.tmp 3) 17, type := 0, pos := "ref.go:35", after := #[{ on := 5, ground := Ground.guard }], guard := some (5, false) } := by kernel_rfl
theorem rops3_9 : rops3[9]? = some { dst := some 105, op := Op.load 5 (Operand.tmp 104), type := 5, pos := "ref.go:35", after := #[{ on := 8, ground := Ground.data }, { on := 5, ground := Ground.guard }], guard := some (5, false) } := by kernel_rfl
theorem rops3_10 : rops3[10]? = some { dst := some 106, op := Op.binOp BinOp.neq 5 (Operand.tmp 103) (Operand.tmp 105) 5, type := 4, pos := "ref.go:35", after := #[{ on := 7, ground := Ground.data }, { on := 9, ground := Ground.data }, { on := 5, ground := Ground.guard }], guard := some (5, false) } := by kernel_rfl
theorem rops3_11 : rops3[11]? = some { dst := some 107, op := Op.pick (Operand.tmp 101) (Operand.const (Value.bool true)) (Operand.tmp 106), type := 4, pos := "ref.go:35", after := #[{ on := 5, ground := Ground.data }, { on := 10, ground := Ground.data }], guard := none } := by kernel_rfl
theorem rops3_12 : rops3[12]? = some { dst := some 108, op := Op.move (Operand.tmp 107), type := 4, pos := "ref.go:35", after := #[{ on := 11, ground := Ground.data }, { on := 5, ground := Ground.chain }], guard := none } := by kernel_rfl
theorem rops3_13 : rops3[13]? = some { dst := some 109, op := Op.fieldAddr 30 (Operand.tmp 2) 18, type := 0, pos := "ref.go:35", after := #[{ on := 12, ground := Ground.guard }], guard := some (12, false) } := by kernel_rfl
theorem rops3_14 : rops3[14]? = some { dst := some 110, op := Op.load 5 (Operand.tmp 109), type := 5, pos := "ref.go:35", after := #[{ on := 13, ground := Ground.data }, { on := 12, ground := Ground.guard }], guard := some (12, false) } := by kernel_rfl
theorem rops3_15 : rops3[15]? = some { dst := some 111, op := Op.fieldAddr 30 (Operand.tmp 3) 18, type := 0, pos := "ref.go:35", after := #[{ on := 12, ground := Ground.guard }], guard := some (12, false) } := by kernel_rfl
theorem rops3_16 : rops3[16]? = some { dst := some 112, op := Op.load 5 (Operand.tmp 111), type := 5, pos := "ref.go:35", after := #[{ on := 15, ground := Ground.data }, { on := 12, ground := Ground.guard }], guard := some (12, false) } := by kernel_rfl
theorem rops3_17 : rops3[17]? = some { dst := some 113, op := Op.binOp BinOp.neq 5 (Operand.tmp 110) (Operand.tmp 112) 5, type := 4, pos := "ref.go:35", after := #[{ on := 14, ground := Ground.data }, { on := 16, ground := Ground.data }, { on := 12, ground := Ground.guard }], guard := some (12, false) } := by kernel_rfl
theorem rops3_18 : rops3[18]? = some { dst := some 114, op := Op.pick (Operand.tmp 108) (Operand.const (Value.bool true)) (Operand.tmp 113), type := 4, pos := "ref.go:35", after := #[{ on := 12, ground := Ground.data }, { on := 17, ground := Ground.data }], guard := none } := by kernel_rfl
theorem rops3_19 : rops3[19]? = some { dst := some 115, op := Op.move (Operand.tmp 114), type := 4, pos := "ref.go:35", after := #[{ on := 18, ground := Ground.data }, { on := 12, ground := Ground.chain }], guard := none } := by kernel_rfl
theorem rops3_20 : rops3[20]? = some { dst := some 116, op := Op.fieldAddr 30 (Operand.tmp 2) 19, type := 0, pos := "ref.go:35", after := #[{ on := 19, ground := Ground.guard }], guard := some (19, false) } := by kernel_rfl
theorem rops3_21 : rops3[21]? = some { dst := some 117, op := Op.load 5 (Operand.tmp 116), type := 5, pos := "ref.go:35", after := #[{ on := 20, ground := Ground.data }, { on := 19, ground := Ground.guard }], guard := some (19, false) } := by kernel_rfl
theorem rops3_22 : rops3[22]? = some { dst := some 118, op := Op.fieldAddr 30 (Operand.tmp 3) 19, type := 0, pos := "ref.go:35", after := #[{ on := 19, ground := Ground.guard }], guard := some (19, false) } := by kernel_rfl
theorem rops3_23 : rops3[23]? = some { dst := some 119, op := Op.load 5 (Operand.tmp 118), type := 5, pos := "ref.go:35", after := #[{ on := 22, ground := Ground.data }, { on := 19, ground := Ground.guard }], guard := some (19, false) } := by kernel_rfl
theorem rops3_24 : rops3[24]? = some { dst := some 120, op := Op.binOp BinOp.neq 5 (Operand.tmp 117) (Operand.tmp 119) 5, type := 4, pos := "ref.go:35", after := #[{ on := 21, ground := Ground.data }, { on := 23, ground := Ground.data }, { on := 19, ground := Ground.guard }], guard := some (19, false) } := by kernel_rfl
theorem rops3_25 : rops3[25]? = some { dst := some 121, op := Op.pick (Operand.tmp 115) (Operand.const (Value.bool true)) (Operand.tmp 120), type := 4, pos := "ref.go:35", after := #[{ on := 19, ground := Ground.data }, { on := 24, ground := Ground.data }], guard := none } := by kernel_rfl
theorem rops3_26 : rops3[26]? = some { dst := some 122, op := Op.move (Operand.tmp 121), type := 4, pos := "ref.go:35", after := #[{ on := 25, ground := Ground.data }, { on := 19, ground := Ground.chain }], guard := none } := by kernel_rfl
theorem rops3_27 : rops3[27]? = some { dst := some 123, op := Op.fieldAddr 30 (Operand.tmp 2) 20, type := 0, pos := "ref.go:35", after := #[{ on := 26, ground := Ground.guard }], guard := some (26, false) } := by kernel_rfl
theorem rops3_28 : rops3[28]? = some { dst := some 124, op := Op.load 5 (Operand.tmp 123), type := 5, pos := "ref.go:35", after := #[{ on := 27, ground := Ground.data }, { on := 26, ground := Ground.guard }], guard := some (26, false) } := by kernel_rfl
theorem rops3_29 : rops3[29]? = some { dst := some 125, op := Op.fieldAddr 30 (Operand.tmp 3) 20, type := 0, pos := "ref.go:35", after := #[{ on := 26, ground := Ground.guard }], guard := some (26, false) } := by kernel_rfl
theorem rops3_30 : rops3[30]? = some { dst := some 126, op := Op.load 5 (Operand.tmp 125), type := 5, pos := "ref.go:35", after := #[{ on := 29, ground := Ground.data }, { on := 26, ground := Ground.guard }], guard := some (26, false) } := by kernel_rfl
theorem rops3_31 : rops3[31]? = some { dst := some 127, op := Op.binOp BinOp.neq 5 (Operand.tmp 124) (Operand.tmp 126) 5, type := 4, pos := "ref.go:35", after := #[{ on := 28, ground := Ground.data }, { on := 30, ground := Ground.data }, { on := 26, ground := Ground.guard }], guard := some (26, false) } := by kernel_rfl
theorem rops3_32 : rops3[32]? = some { dst := some 128, op := Op.pick (Operand.tmp 122) (Operand.const (Value.bool true)) (Operand.tmp 127), type := 4, pos := "ref.go:35", after := #[{ on := 26, ground := Ground.data }, { on := 31, ground := Ground.data }], guard := none } := by kernel_rfl
section
variable {P : Program} {L : List Oper} {O : Array Oper} {Q : Exit → Act → World → Prop} {W : World} {a : Act} {o : Oper}
theorem put_size (a : Act) (d : Nat) (v : Value) : (a.put (some d) v).tmps.size = a.tmps.size := by simp [Act.put]
theorem put_same (a : Act) (d : Nat) (v : Value) (h : d < a.tmps.size) : (a.put (some d) v).tmps[d]? = some v := by
  simp only [Act.put]
  rw [Array.getElem?_setIfInBounds_self_of_lt h]
theorem put_other (a : Act) (d i : Nat) (v : Value) (h : i ≠ d) : (a.put (some d) v).tmps[i]? = a.tmps[i]? := by
  simp only [Act.put]
  rw [Array.getElem?_setIfInBounds_ne (Ne.symm h)]
theorem eval_of {i : Nat} {v : Value} (h : a.tmps[i]? = some v) : a.eval (.tmp i) = v := by
  simp only [Act.eval]
  rw [Array.getD_eq_getD_getElem?, h]; rfl
theorem st_val (n d : Nat) {v : Value} (ho : L[n]? = some o) (hg : o.guard = none) (hN : o.dst = some d) (hr : (execOp a.eval o).run P W = .ok (.value v) W) (hz : d < a.tmps.size)
    (h : ∀ a' : Act, a'.tmps.size = a.tmps.size → a'.defers = a.defers → (∀ i, i ≠ d → a'.tmps[i]? = a.tmps[i]?) → a'.tmps[d]? = some v → SD P O Q (L.drop (n + 1)) a' W) : SD P O Q (L.drop n) a W := by
  refine sd_val n ho hg hN hr rfl (h _ (put_size _ _ _) rfl (fun i hi => put_other _ _ _ _ hi) (put_same _ _ _ hz))
theorem st_gate (n g d s : Nat) {v : Value} {og : Oper} (hL : O.toList = L) (ho : L[n]? = some o) (hj : L[g]? = some og) (hg : o.guard = some (g, false)) (hN : o.dst = some d) (hd : og.dst = some s) (hs : a.tmps[s]? = some (.bool false)) (hr : (execOp a.eval { o with guard := none }).run P W = .ok (.value v) W) (hz : d < a.tmps.size)
    (h : ∀ a' : Act, a'.tmps.size = a.tmps.size → a'.defers = a.defers → (∀ i, i ≠ d → a'.tmps[i]? = a.tmps[i]?) → a'.tmps[d]? = some v → SD P O Q (L.drop (n + 1)) a' W) : SD P O Q (L.drop n) a W := by
  refine sd_gate n g s false false hL ho hj hg hN hd hs rfl hr rfl (h _ (put_size _ _ _) rfl (fun i hi => put_other _ _ _ _ hi) (put_same _ _ _ hz))
theorem st_skip (n g d s : Nat) {og : Oper} (hL : O.toList = L) (ho : L[n]? = some o) (hj : L[g]? = some og) (hg : o.guard = some (g, false)) (hN : o.dst = some d) (hd : og.dst = some s) (hs : a.tmps[s]? = some (.bool true)) (hz : d < a.tmps.size)
    (h : ∀ a' : Act, a'.tmps.size = a.tmps.size → a'.defers = a.defers → (∀ i, i ≠ d → a'.tmps[i]? = a.tmps[i]?) → a'.tmps[d]? = some undef → SD P O Q (L.drop (n + 1)) a' W) : SD P O Q (L.drop n) a W := by
  refine sd_skip n g s false true hL ho hj hg hN hd hs rfl rfl (h _ (put_size _ _ _) rfl (fun i hi => put_other _ _ _ _ hi) (put_same _ _ _ hz))
structure Seg (L : List Oper) (n g d : Nat) (o0 o1 o2 o3 o4 o5 og : Oper) : Prop where
  h0 : L[n]? = some o0
  h1 : L[n + 1]? = some o1
  h2 : L[n + 2]? = some o2
  h3 : L[n + 3]? = some o3
  h4 : L[n + 4]? = some o4
  h5 : L[n + 5]? = some o5
  hg : L[g]? = some og
  g0 : o0.guard = some (g, false)
  g1 : o1.guard = some (g, false)
  g2 : o2.guard = some (g, false)
  g3 : o3.guard = some (g, false)
  g4 : o4.guard = some (g, false)
  g5 : o5.guard = none
  d0 : o0.dst = some (d + 1)
  d1 : o1.dst = some (d + 2)
  d2 : o2.dst = some (d + 3)
  d3 : o3.dst = some (d + 4)
  d4 : o4.dst = some (d + 5)
  d5 : o5.dst = some (d + 6)
  dg : og.dst = some d
structure SegRuns (P : Program) (W : World) (d : Nat) (px py : Value) (r : Bool) (o0 o1 o2 o3 o4 o5 : Oper) : Prop where
  e : ∃ v0 v1 v2 v3 : Value, (∀ ev, ev (.tmp 2) = px → (execOp ev { o0 with guard := none }).run P W = .ok (.value v0) W) ∧ (∀ ev, ev (.tmp (d + 1)) = v0 → (execOp ev { o1 with guard := none }).run P W = .ok (.value v1) W) ∧
    (∀ ev, ev (.tmp 3) = py → (execOp ev { o2 with guard := none }).run P W = .ok (.value v2) W) ∧ (∀ ev, ev (.tmp (d + 3)) = v2 → (execOp ev { o3 with guard := none }).run P W = .ok (.value v3) W) ∧
    (∀ ev, ev (.tmp (d + 2)) = v1 → ev (.tmp (d + 4)) = v3 → (execOp ev { o4 with guard := none }).run P W = .ok (.value (.bool r)) W)
  p1 : ∀ ev, ev (.tmp d) = .bool true → ev (.const (.bool true)) = .bool true → (execOp ev o5).run P W = .ok (.value (.bool true)) W
  p2 : ∀ ev c, ev (.tmp d) = .bool false → ev (.tmp (d + 5)) = .bool c → (execOp ev o5).run P W = .ok (.value (.bool c)) W
theorem seg (n g d : Nat) {o0 o1 o2 o3 o4 o5 og : Oper} (v r : Bool) {px py : Value} (hL : O.toList = L) (H : Seg L n g d o0 o1 o2 o3 o4 o5 og) (R : SegRuns P W d px py r o0 o1 o2 o3 o4 o5)
    (hd : 3 < d) (hz : d + 6 < a.tmps.size) (hx : a.tmps[2]? = some px) (hy : a.tmps[3]? = some py) (hs : a.tmps[d]? = some (.bool v))
    (h : ∀ a' : Act, a'.tmps.size = a.tmps.size → a'.defers = a.defers → a'.tmps[2]? = some px → a'.tmps[3]? = some py → a'.tmps[d + 6]? = some (.bool (v || r)) → SD P O Q (L.drop (n + 6)) a' W) : SD P O Q (L.drop n) a W := by
  obtain ⟨v0, v1, v2, v3, e0, e1, e2, e3, e4⟩ := R.e
  have n1 : d ≠ d + 1 := by omega
  have n2 : d ≠ d + 2 := by omega
  have n3 : d ≠ d + 3 := by omega
  have n4 : d ≠ d + 4 := by omega
  have n5 : d ≠ d + 5 := by omega
  cases v with
  | true =>
    refine st_skip n g (d + 1) d hL H.h0 H.hg H.g0 H.d0 H.dg hs (by omega) fun a1 z1 f1 k1 v1 => ?_
    have s1 := (k1 d n1).trans hs
    refine st_skip (n + 1) g (d + 2) d hL H.h1 H.hg H.g1 H.d1 H.dg s1 (by omega) fun a2 z2 f2 k2 v2 => ?_
    have s2 := (k2 d n2).trans s1
    refine st_skip (n + 2) g (d + 3) d hL H.h2 H.hg H.g2 H.d2 H.dg s2 (by omega) fun a3 z3 f3 k3 v3 => ?_
    have s3 := (k3 d n3).trans s2
    refine st_skip (n + 3) g (d + 4) d hL H.h3 H.hg H.g3 H.d3 H.dg s3 (by omega) fun a4 z4 f4 k4 v4 => ?_
    have s4 := (k4 d n4).trans s3
    refine st_skip (n + 4) g (d + 5) d hL H.h4 H.hg H.g4 H.d4 H.dg s4 (by omega) fun a5 z5 f5 k5 v5 => ?_
    have s5 := (k5 d n5).trans s4
    refine st_val (n + 5) (d + 6) H.h5 H.g5 H.d5 (R.p1 _ (eval_of s5) rfl) (by omega) fun a6 z6 f6 k6 v6 => ?_
    refine h a6 (by omega) (by rw [f6, f5, f4, f3, f2, f1]) ?_ ?_ v6
    · rw [k6 2 (by omega), k5 2 (by omega), k4 2 (by omega), k3 2 (by omega), k2 2 (by omega), k1 2 (by omega)]; exact hx
    · rw [k6 3 (by omega), k5 3 (by omega), k4 3 (by omega), k3 3 (by omega), k2 3 (by omega), k1 3 (by omega)]; exact hy
  | false =>
    refine st_gate n g (d + 1) d hL H.h0 H.hg H.g0 H.d0 H.dg hs (e0 _ (eval_of hx)) (by omega) fun a1 z1 f1 k1 w1 => ?_
    have s1 := (k1 d n1).trans hs
    refine st_gate (n + 1) g (d + 2) d hL H.h1 H.hg H.g1 H.d1 H.dg s1 (e1 _ (eval_of w1)) (by omega) fun a2 z2 f2 k2 w2 => ?_
    have s2 := (k2 d n2).trans s1
    have y2 : a2.tmps[3]? = some py := by rw [k2 3 (by omega), k1 3 (by omega)]; exact hy
    refine st_gate (n + 2) g (d + 3) d hL H.h2 H.hg H.g2 H.d2 H.dg s2 (e2 _ (eval_of y2)) (by omega) fun a3 z3 f3 k3 w3 => ?_
    have s3 := (k3 d n3).trans s2
    refine st_gate (n + 3) g (d + 4) d hL H.h3 H.hg H.g3 H.d3 H.dg s3 (e3 _ (eval_of w3)) (by omega) fun a4 z4 f4 k4 w4 => ?_
    have s4 := (k4 d n4).trans s3
    have x4 : a4.tmps[d + 2]? = some v1 := by rw [k4 (d + 2) (by omega), k3 (d + 2) (by omega)]; exact w2
    refine st_gate (n + 4) g (d + 5) d hL H.h4 H.hg H.g4 H.d4 H.dg s4 (e4 _ (eval_of x4) (eval_of w4)) (by omega) fun a5 z5 f5 k5 w5 => ?_
    have s5 := (k5 d n5).trans s4
    refine st_val (n + 5) (d + 6) H.h5 H.g5 H.d5 (R.p2 _ r (eval_of s5) (eval_of w5)) (by omega) fun a6 z6 f6 k6 w6 => ?_
    refine h a6 (by omega) (by rw [f6, f5, f4, f3, f2, f1]) ?_ ?_ w6
    · rw [k6 2 (by omega), k5 2 (by omega), k4 2 (by omega), k3 2 (by omega), k2 2 (by omega), k1 2 (by omega)]; exact hx
    · rw [k6 3 (by omega), k5 3 (by omega), k4 3 (by omega), k3 3 (by omega), k2 3 (by omega), k1 3 (by omega)]; exact hy
theorem seg_move (n d : Nat) {om : Oper} {v : Value} {px py : Value} (hm : L[n]? = some om) (hg : om.guard = none) (hd : om.dst = some (d + 1)) (he : ∀ ev, ev (.tmp d) = v → (execOp ev om).run P W = .ok (.value v) W) (h3 : 3 < d) (hz : d + 1 < a.tmps.size)
    (hx : a.tmps[2]? = some px) (hy : a.tmps[3]? = some py) (hs : a.tmps[d]? = some v)
    (h : ∀ a' : Act, a'.tmps.size = a.tmps.size → a'.defers = a.defers → a'.tmps[2]? = some px → a'.tmps[3]? = some py → a'.tmps[d + 1]? = some v → SD P O Q (L.drop (n + 1)) a' W) : SD P O Q (L.drop n) a W := by
  refine st_val n (d + 1) hm hg hd (he _ (eval_of hs)) hz fun a1 z1 f1 k1 w1 => ?_
  exact h a1 z1 f1 ((k1 2 (by omega)).trans hx) ((k1 3 (by omega)).trans hy) w1
theorem seg0 (d : Nat) {o0 o1 o2 o3 o4 : Oper} {px py : Value} {r : Bool} (h0 : L[0]? = some o0) (h1 : L[1]? = some o1) (h2 : L[2]? = some o2) (h3 : L[3]? = some o3) (h4 : L[4]? = some o4)
    (g0 : o0.guard = none) (g1 : o1.guard = none) (g2 : o2.guard = none) (g3 : o3.guard = none) (g4 : o4.guard = none) (d0 : o0.dst = some (d + 1)) (d1 : o1.dst = some (d + 2)) (d2 : o2.dst = some (d + 3)) (d3 : o3.dst = some (d + 4)) (d4 : o4.dst = some (d + 5))
    (e : ∃ v0 v1 v2 v3 : Value, (∀ ev, ev (.tmp 2) = px → (execOp ev o0).run P W = .ok (.value v0) W) ∧ (∀ ev, ev (.tmp (d + 1)) = v0 → (execOp ev o1).run P W = .ok (.value v1) W) ∧
    (∀ ev, ev (.tmp 3) = py → (execOp ev o2).run P W = .ok (.value v2) W) ∧ (∀ ev, ev (.tmp (d + 3)) = v2 → (execOp ev o3).run P W = .ok (.value v3) W) ∧
    (∀ ev, ev (.tmp (d + 2)) = v1 → ev (.tmp (d + 4)) = v3 → (execOp ev o4).run P W = .ok (.value (.bool r)) W))
    (hd : 3 < d) (hz : d + 5 < a.tmps.size) (hx : a.tmps[2]? = some px) (hy : a.tmps[3]? = some py)
    (h : ∀ a' : Act, a'.tmps.size = a.tmps.size → a'.defers = a.defers → a'.tmps[2]? = some px → a'.tmps[3]? = some py → a'.tmps[d + 5]? = some (.bool r) → SD P O Q (L.drop 5) a' W) : SD P O Q (L.drop 0) a W := by
  obtain ⟨v0, v1, v2, v3, e0, e1, e2, e3, e4⟩ := e
  refine st_val 0 (d + 1) h0 g0 d0 (e0 _ (eval_of hx)) (by omega) fun a1 z1 f1 k1 w1 => ?_
  refine st_val 1 (d + 2) h1 g1 d1 (e1 _ (eval_of w1)) (by omega) fun a2 z2 f2 k2 w2 => ?_
  have y2 : a2.tmps[3]? = some py := by rw [k2 3 (by omega), k1 3 (by omega)]; exact hy
  refine st_val 2 (d + 3) h2 g2 d2 (e2 _ (eval_of y2)) (by omega) fun a3 z3 f3 k3 w3 => ?_
  refine st_val 3 (d + 4) h3 g3 d3 (e3 _ (eval_of w3)) (by omega) fun a4 z4 f4 k4 w4 => ?_
  have x4 : a4.tmps[d + 2]? = some v1 := by rw [k4 (d + 2) (by omega), k3 (d + 2) (by omega)]; exact w2
  refine st_val 4 (d + 5) h4 g4 d4 (e4 _ (eval_of x4) (eval_of w4)) (by omega) fun a5 z5 f5 k5 w5 => ?_
  refine h a5 (by omega) (by rw [f5, f4, f3, f2, f1]) ?_ ?_ w5
  · rw [k5 2 (by omega), k4 2 (by omega), k3 2 (by omega), k2 2 (by omega), k1 2 (by omega)]; exact hx
  · rw [k5 3 (by omega), k4 3 (by omega), k3 3 (by omega), k2 3 (by omega), k1 3 (by omega)]; exact hy
end
theorem reg1_any (x y : Msg) (w wc : World) (Q : Exit → Act → World → Prop) (a : Act) (px0 : wc.cell? ⟨w.heap.size, 0, none⟩ = some (.int .u8 x.code)) (py0 : wc.cell? ⟨w.heap.size + 1, 0, none⟩ = some (.int .u8 y.code)) (px1 : wc.cell? ⟨w.heap.size, 1, none⟩ = some (.int .u8 x.fail)) (py1 : wc.cell? ⟨w.heap.size + 1, 1, none⟩ = some (.int .u8 y.fail)) (px2 : wc.cell? ⟨w.heap.size, 2, none⟩ = some (.int .u16 x.addr)) (py2 : wc.cell? ⟨w.heap.size + 1, 2, none⟩ = some (.int .u16 y.addr)) (px3 : wc.cell? ⟨w.heap.size, 3, none⟩ = some (.int .u16 x.count)) (py3 : wc.cell? ⟨w.heap.size + 1, 3, none⟩ = some (.int .u16 y.count)) (px4 : wc.cell? ⟨w.heap.size, 4, none⟩ = some (.int .u16 x.value)) (py4 : wc.cell? ⟨w.heap.size + 1, 4, none⟩ = some (.int .u16 y.value)) (px5 : wc.cell? ⟨w.heap.size, 5, none⟩ = some (.int .u16 x.and_)) (py5 : wc.cell? ⟨w.heap.size + 1, 5, none⟩ = some (.int .u16 y.and_)) (px6 : wc.cell? ⟨w.heap.size, 6, none⟩ = some (.int .u16 x.or_)) (py6 : wc.cell? ⟨w.heap.size + 1, 6, none⟩ = some (.int .u16 y.or_)) (px7 : wc.cell? ⟨w.heap.size, 7, none⟩ = some (.int .u16 x.addr2)) (py7 : wc.cell? ⟨w.heap.size + 1, 7, none⟩ = some (.int .u16 y.addr2)) (px8 : wc.cell? ⟨w.heap.size, 8, none⟩ = some (.int .u16 x.sub)) (py8 : wc.cell? ⟨w.heap.size + 1, 8, none⟩ = some (.int .u16 y.sub)) (px9 : wc.cell? ⟨w.heap.size, 9, none⟩ = some (.int .u16 x.status)) (py9 : wc.cell? ⟨w.heap.size + 1, 9, none⟩ = some (.int .u16 y.status)) (px10 : wc.cell? ⟨w.heap.size, 10, none⟩ = some (.int .u16 x.events)) (py10 : wc.cell? ⟨w.heap.size + 1, 10, none⟩ = some (.int .u16 y.events)) (px11 : wc.cell? ⟨w.heap.size, 11, none⟩ = some (.int .u16 x.messages)) (py11 : wc.cell? ⟨w.heap.size + 1, 11, none⟩ = some (.int .u16 y.messages)) (hs : a.tmps.size = 254) (hx : a.tmps[2]? = some (.pointer (some ⟨w.heap.size, 0, none⟩))) (hy : a.tmps[3]? = some (.pointer (some ⟨w.heap.size + 1, 0, none⟩)))
    (h : ∀ a' : Act, a'.tmps.size = 254 → a'.defers = a.defers → a'.tmps[2]? = some (.pointer (some ⟨w.heap.size, 0, none⟩)) → a'.tmps[3]? = some (.pointer (some ⟨w.heap.size + 1, 0, none⟩)) → a'.tmps[95]? = some (.bool ((x.code != y.code) || (x.fail != y.fail) || (x.addr != y.addr) || (x.count != y.count) || (x.value != y.value) || (x.and_ != y.and_) || (x.or_ != y.or_) || (x.addr2 != y.addr2) || (x.sub != y.sub) || (x.status != y.status) || (x.events != y.events) || (x.messages != y.messages))) → Q .normal a' wc) : wpList Try.prog (opsOf Try.f14 1) Q (opsOf Try.f14 1).toList a wc := by
  have hu1 := Try.underlying30
  have hL : (opsOf Try.f14 1).toList = rops1 := rfl
  suffices hS : SD Try.prog (opsOf Try.f14 1) Q (rops1.drop 0) a wc from hS.out
  refine seg0 (r := (x.code != y.code)) 13 rops1_0 rops1_1 rops1_2 rops1_3 rops1_4 rfl rfl rfl rfl rfl rfl rfl rfl rfl rfl ?_ (by omega) (by omega) hx hy fun a1 z1 f1 x1 y1 w1 => ?_
  · exact ⟨.pointer (some (⟨w.heap.size, 0, none⟩ : Addr)), .int .u8 x.code, .pointer (some (⟨w.heap.size + 1, 0, none⟩ : Addr)), .int .u8 y.code, fun ev (h : ev (.tmp 2) = .pointer (some (⟨w.heap.size, 0, none⟩ : Addr))) => by go_simp, fun ev (h1 : ev (.tmp 14) = .pointer (some (⟨w.heap.size, 0, none⟩ : Addr))) => by go_simp, fun ev (h : ev (.tmp 3) = .pointer (some (⟨w.heap.size + 1, 0, none⟩ : Addr))) => by go_simp, fun ev (h3 : ev (.tmp 16) = .pointer (some (⟨w.heap.size + 1, 0, none⟩ : Addr))) => by go_simp, fun ev (h2 : ev (.tmp 15) = .int .u8 x.code) (h4 : ev (.tmp 17) = .int .u8 y.code) => by go_simp⟩
  refine seg_move 5 18 rops1_5 rfl rfl (fun ev (h : ev (.tmp 18) = _) => by go_simp) (by omega) (by omega) x1 y1 w1 fun a2 z2 f2 x2 y2 w2 => ?_
  refine seg 6 5 19 ((x.code != y.code)) (x.fail != y.fail) hL ⟨rops1_6, rops1_7, rops1_8, rops1_9, rops1_10, rops1_11, rops1_5, rfl, rfl, rfl, rfl, rfl, rfl, rfl, rfl, rfl, rfl, rfl, rfl, rfl⟩ ⟨?_, fun ev (h : ev (.tmp 19) = _) (hc : ev (.const (.bool true)) = _) => by go_simp, fun ev c (h : ev (.tmp 19) = _) (h2 : ev (.tmp 24) = _) => by go_simp⟩ (by omega) (by omega) x2 y2 w2 fun a3 z3 f3 x3 y3 w3 => ?_
  · exact ⟨.pointer (some (⟨w.heap.size, 1, none⟩ : Addr)), .int .u8 x.fail, .pointer (some (⟨w.heap.size + 1, 1, none⟩ : Addr)), .int .u8 y.fail, fun ev (h : ev (.tmp 2) = .pointer (some (⟨w.heap.size, 0, none⟩ : Addr))) => by go_simp, fun ev (h1 : ev (.tmp 20) = .pointer (some (⟨w.heap.size, 1, none⟩ : Addr))) => by go_simp, fun ev (h : ev (.tmp 3) = .pointer (some (⟨w.heap.size + 1, 0, none⟩ : Addr))) => by go_simp, fun ev (h3 : ev (.tmp 22) = .pointer (some (⟨w.heap.size + 1, 1, none⟩ : Addr))) => by go_simp, fun ev (h2 : ev (.tmp 21) = .int .u8 x.fail) (h4 : ev (.tmp 23) = .int .u8 y.fail) => by go_simp⟩
  refine seg_move 12 25 rops1_12 rfl rfl (fun ev (h : ev (.tmp 25) = _) => by go_simp) (by omega) (by omega) x3 y3 w3 fun a4 z4 f4 x4 y4 w4 => ?_
  refine seg 13 12 26 ((x.code != y.code) || (x.fail != y.fail)) (x.addr != y.addr) hL ⟨rops1_13, rops1_14, rops1_15, rops1_16, rops1_17, rops1_18, rops1_12, rfl, rfl, rfl, rfl, rfl, rfl, rfl, rfl, rfl, rfl, rfl, rfl, rfl⟩ ⟨?_, fun ev (h : ev (.tmp 26) = _) (hc : ev (.const (.bool true)) = _) => by go_simp, fun ev c (h : ev (.tmp 26) = _) (h2 : ev (.tmp 31) = _) => by go_simp⟩ (by omega) (by omega) x4 y4 w4 fun a5 z5 f5 x5 y5 w5 => ?_
  · exact ⟨.pointer (some (⟨w.heap.size, 2, none⟩ : Addr)), .int .u16 x.addr, .pointer (some (⟨w.heap.size + 1, 2, none⟩ : Addr)), .int .u16 y.addr, fun ev (h : ev (.tmp 2) = .pointer (some (⟨w.heap.size, 0, none⟩ : Addr))) => by go_simp, fun ev (h1 : ev (.tmp 27) = .pointer (some (⟨w.heap.size, 2, none⟩ : Addr))) => by go_simp, fun ev (h : ev (.tmp 3) = .pointer (some (⟨w.heap.size + 1, 0, none⟩ : Addr))) => by go_simp, fun ev (h3 : ev (.tmp 29) = .pointer (some (⟨w.heap.size + 1, 2, none⟩ : Addr))) => by go_simp, fun ev (h2 : ev (.tmp 28) = .int .u16 x.addr) (h4 : ev (.tmp 30) = .int .u16 y.addr) => by go_simp⟩
  refine seg_move 19 32 rops1_19 rfl rfl (fun ev (h : ev (.tmp 32) = _) => by go_simp) (by omega) (by omega) x5 y5 w5 fun a6 z6 f6 x6 y6 w6 => ?_
  refine seg 20 19 33 ((x.code != y.code) || (x.fail != y.fail) || (x.addr != y.addr)) (x.count != y.count) hL ⟨rops1_20, rops1_21, rops1_22, rops1_23, rops1_24, rops1_25, rops1_19, rfl, rfl, rfl, rfl, rfl, rfl, rfl, rfl, rfl, rfl, rfl, rfl, rfl⟩ ⟨?_, fun ev (h : ev (.tmp 33) = _) (hc : ev (.const (.bool true)) = _) => by go_simp, fun ev c (h : ev (.tmp 33) = _) (h2 : ev (.tmp 38) = _) => by go_simp⟩ (by omega) (by omega) x6 y6 w6 fun a7 z7 f7 x7 y7 w7 => ?_
  · exact ⟨.pointer (some (⟨w.heap.size, 3, none⟩ : Addr)), .int .u16 x.count, .pointer (some (⟨w.heap.size + 1, 3, none⟩ : Addr)), .int .u16 y.count, fun ev (h : ev (.tmp 2) = .pointer (some (⟨w.heap.size, 0, none⟩ : Addr))) => by go_simp, fun ev (h1 : ev (.tmp 34) = .pointer (some (⟨w.heap.size, 3, none⟩ : Addr))) => by go_simp, fun ev (h : ev (.tmp 3) = .pointer (some (⟨w.heap.size + 1, 0, none⟩ : Addr))) => by go_simp, fun ev (h3 : ev (.tmp 36) = .pointer (some (⟨w.heap.size + 1, 3, none⟩ : Addr))) => by go_simp, fun ev (h2 : ev (.tmp 35) = .int .u16 x.count) (h4 : ev (.tmp 37) = .int .u16 y.count) => by go_simp⟩
  refine seg_move 26 39 rops1_26 rfl rfl (fun ev (h : ev (.tmp 39) = _) => by go_simp) (by omega) (by omega) x7 y7 w7 fun a8 z8 f8 x8 y8 w8 => ?_
  refine seg 27 26 40 ((x.code != y.code) || (x.fail != y.fail) || (x.addr != y.addr) || (x.count != y.count)) (x.value != y.value) hL ⟨rops1_27, rops1_28, rops1_29, rops1_30, rops1_31, rops1_32, rops1_26, rfl, rfl, rfl, rfl, rfl, rfl, rfl, rfl, rfl, rfl, rfl, rfl, rfl⟩ ⟨?_, fun ev (h : ev (.tmp 40) = _) (hc : ev (.const (.bool true)) = _) => by go_simp, fun ev c (h : ev (.tmp 40) = _) (h2 : ev (.tmp 45) = _) => by go_simp⟩ (by omega) (by omega) x8 y8 w8 fun a9 z9 f9 x9 y9 w9 => ?_
  · exact ⟨.pointer (some (⟨w.heap.size, 4, none⟩ : Addr)), .int .u16 x.value, .pointer (some (⟨w.heap.size + 1, 4, none⟩ : Addr)), .int .u16 y.value, fun ev (h : ev (.tmp 2) = .pointer (some (⟨w.heap.size, 0, none⟩ : Addr))) => by go_simp, fun ev (h1 : ev (.tmp 41) = .pointer (some (⟨w.heap.size, 4, none⟩ : Addr))) => by go_simp, fun ev (h : ev (.tmp 3) = .pointer (some (⟨w.heap.size + 1, 0, none⟩ : Addr))) => by go_simp, fun ev (h3 : ev (.tmp 43) = .pointer (some (⟨w.heap.size + 1, 4, none⟩ : Addr))) => by go_simp, fun ev (h2 : ev (.tmp 42) = .int .u16 x.value) (h4 : ev (.tmp 44) = .int .u16 y.value) => by go_simp⟩
  refine seg_move 33 46 rops1_33 rfl rfl (fun ev (h : ev (.tmp 46) = _) => by go_simp) (by omega) (by omega) x9 y9 w9 fun a10 z10 f10 x10 y10 w10 => ?_
  refine seg 34 33 47 ((x.code != y.code) || (x.fail != y.fail) || (x.addr != y.addr) || (x.count != y.count) || (x.value != y.value)) (x.and_ != y.and_) hL ⟨rops1_34, rops1_35, rops1_36, rops1_37, rops1_38, rops1_39, rops1_33, rfl, rfl, rfl, rfl, rfl, rfl, rfl, rfl, rfl, rfl, rfl, rfl, rfl⟩ ⟨?_, fun ev (h : ev (.tmp 47) = _) (hc : ev (.const (.bool true)) = _) => by go_simp, fun ev c (h : ev (.tmp 47) = _) (h2 : ev (.tmp 52) = _) => by go_simp⟩ (by omega) (by omega) x10 y10 w10 fun a11 z11 f11 x11 y11 w11 => ?_
  · exact ⟨.pointer (some (⟨w.heap.size, 5, none⟩ : Addr)), .int .u16 x.and_, .pointer (some (⟨w.heap.size + 1, 5, none⟩ : Addr)), .int .u16 y.and_, fun ev (h : ev (.tmp 2) = .pointer (some (⟨w.heap.size, 0, none⟩ : Addr))) => by go_simp, fun ev (h1 : ev (.tmp 48) = .pointer (some (⟨w.heap.size, 5, none⟩ : Addr))) => by go_simp, fun ev (h : ev (.tmp 3) = .pointer (some (⟨w.heap.size + 1, 0, none⟩ : Addr))) => by go_simp, fun ev (h3 : ev (.tmp 50) = .pointer (some (⟨w.heap.size + 1, 5, none⟩ : Addr))) => by go_simp, fun ev (h2 : ev (.tmp 49) = .int .u16 x.and_) (h4 : ev (.tmp 51) = .int .u16 y.and_) => by go_simp⟩
  refine seg_move 40 53 rops1_40 rfl rfl (fun ev (h : ev (.tmp 53) = _) => by go_simp) (by omega) (by omega) x11 y11 w11 fun a12 z12 f12 x12 y12 w12 => ?_
  refine seg 41 40 54 ((x.code != y.code) || (x.fail != y.fail) || (x.addr != y.addr) || (x.count != y.count) || (x.value != y.value) || (x.and_ != y.and_)) (x.or_ != y.or_) hL ⟨rops1_41, rops1_42, rops1_43, rops1_44, rops1_45, rops1_46, rops1_40, rfl, rfl, rfl, rfl, rfl, rfl, rfl, rfl, rfl, rfl, rfl, rfl, rfl⟩ ⟨?_, fun ev (h : ev (.tmp 54) = _) (hc : ev (.const (.bool true)) = _) => by go_simp, fun ev c (h : ev (.tmp 54) = _) (h2 : ev (.tmp 59) = _) => by go_simp⟩ (by omega) (by omega) x12 y12 w12 fun a13 z13 f13 x13 y13 w13 => ?_
  · exact ⟨.pointer (some (⟨w.heap.size, 6, none⟩ : Addr)), .int .u16 x.or_, .pointer (some (⟨w.heap.size + 1, 6, none⟩ : Addr)), .int .u16 y.or_, fun ev (h : ev (.tmp 2) = .pointer (some (⟨w.heap.size, 0, none⟩ : Addr))) => by go_simp, fun ev (h1 : ev (.tmp 55) = .pointer (some (⟨w.heap.size, 6, none⟩ : Addr))) => by go_simp, fun ev (h : ev (.tmp 3) = .pointer (some (⟨w.heap.size + 1, 0, none⟩ : Addr))) => by go_simp, fun ev (h3 : ev (.tmp 57) = .pointer (some (⟨w.heap.size + 1, 6, none⟩ : Addr))) => by go_simp, fun ev (h2 : ev (.tmp 56) = .int .u16 x.or_) (h4 : ev (.tmp 58) = .int .u16 y.or_) => by go_simp⟩
  refine seg_move 47 60 rops1_47 rfl rfl (fun ev (h : ev (.tmp 60) = _) => by go_simp) (by omega) (by omega) x13 y13 w13 fun a14 z14 f14 x14 y14 w14 => ?_
  refine seg 48 47 61 ((x.code != y.code) || (x.fail != y.fail) || (x.addr != y.addr) || (x.count != y.count) || (x.value != y.value) || (x.and_ != y.and_) || (x.or_ != y.or_)) (x.addr2 != y.addr2) hL ⟨rops1_48, rops1_49, rops1_50, rops1_51, rops1_52, rops1_53, rops1_47, rfl, rfl, rfl, rfl, rfl, rfl, rfl, rfl, rfl, rfl, rfl, rfl, rfl⟩ ⟨?_, fun ev (h : ev (.tmp 61) = _) (hc : ev (.const (.bool true)) = _) => by go_simp, fun ev c (h : ev (.tmp 61) = _) (h2 : ev (.tmp 66) = _) => by go_simp⟩ (by omega) (by omega) x14 y14 w14 fun a15 z15 f15 x15 y15 w15 => ?_
  · exact ⟨.pointer (some (⟨w.heap.size, 7, none⟩ : Addr)), .int .u16 x.addr2, .pointer (some (⟨w.heap.size + 1, 7, none⟩ : Addr)), .int .u16 y.addr2, fun ev (h : ev (.tmp 2) = .pointer (some (⟨w.heap.size, 0, none⟩ : Addr))) => by go_simp, fun ev (h1 : ev (.tmp 62) = .pointer (some (⟨w.heap.size, 7, none⟩ : Addr))) => by go_simp, fun ev (h : ev (.tmp 3) = .pointer (some (⟨w.heap.size + 1, 0, none⟩ : Addr))) => by go_simp, fun ev (h3 : ev (.tmp 64) = .pointer (some (⟨w.heap.size + 1, 7, none⟩ : Addr))) => by go_simp, fun ev (h2 : ev (.tmp 63) = .int .u16 x.addr2) (h4 : ev (.tmp 65) = .int .u16 y.addr2) => by go_simp⟩
  refine seg_move 54 67 rops1_54 rfl rfl (fun ev (h : ev (.tmp 67) = _) => by go_simp) (by omega) (by omega) x15 y15 w15 fun a16 z16 f16 x16 y16 w16 => ?_
  refine seg 55 54 68 ((x.code != y.code) || (x.fail != y.fail) || (x.addr != y.addr) || (x.count != y.count) || (x.value != y.value) || (x.and_ != y.and_) || (x.or_ != y.or_) || (x.addr2 != y.addr2)) (x.sub != y.sub) hL ⟨rops1_55, rops1_56, rops1_57, rops1_58, rops1_59, rops1_60, rops1_54, rfl, rfl, rfl, rfl, rfl, rfl, rfl, rfl, rfl, rfl, rfl, rfl, rfl⟩ ⟨?_, fun ev (h : ev (.tmp 68) = _) (hc : ev (.const (.bool true)) = _) => by go_simp, fun ev c (h : ev (.tmp 68) = _) (h2 : ev (.tmp 73) = _) => by go_simp⟩ (by omega) (by omega) x16 y16 w16 fun a17 z17 f17 x17 y17 w17 => ?_
  · exact ⟨.pointer (some (⟨w.heap.size, 8, none⟩ : Addr)), .int .u16 x.sub, .pointer (some (⟨w.heap.size + 1, 8, none⟩ : Addr)), .int .u16 y.sub, fun ev (h : ev (.tmp 2) = .pointer (some (⟨w.heap.size, 0, none⟩ : Addr))) => by go_simp, fun ev (h1 : ev (.tmp 69) = .pointer (some (⟨w.heap.size, 8, none⟩ : Addr))) => by go_simp, fun ev (h : ev (.tmp 3) = .pointer (some (⟨w.heap.size + 1, 0, none⟩ : Addr))) => by go_simp, fun ev (h3 : ev (.tmp 71) = .pointer (some (⟨w.heap.size + 1, 8, none⟩ : Addr))) => by go_simp, fun ev (h2 : ev (.tmp 70) = .int .u16 x.sub) (h4 : ev (.tmp 72) = .int .u16 y.sub) => by go_simp⟩
  refine seg_move 61 74 rops1_61 rfl rfl (fun ev (h : ev (.tmp 74) = _) => by go_simp) (by omega) (by omega) x17 y17 w17 fun a18 z18 f18 x18 y18 w18 => ?_
  refine seg 62 61 75 ((x.code != y.code) || (x.fail != y.fail) || (x.addr != y.addr) || (x.count != y.count) || (x.value != y.value) || (x.and_ != y.and_) || (x.or_ != y.or_) || (x.addr2 != y.addr2) || (x.sub != y.sub)) (x.status != y.status) hL ⟨rops1_62, rops1_63, rops1_64, rops1_65, rops1_66, rops1_67, rops1_61, rfl, rfl, rfl, rfl, rfl, rfl, rfl, rfl, rfl, rfl, rfl, rfl, rfl⟩ ⟨?_, fun ev (h : ev (.tmp 75) = _) (hc : ev (.const (.bool true)) = _) => by go_simp, fun ev c (h : ev (.tmp 75) = _) (h2 : ev (.tmp 80) = _) => by go_simp⟩ (by omega) (by omega) x18 y18 w18 fun a19 z19 f19 x19 y19 w19 => ?_
  · exact ⟨.pointer (some (⟨w.heap.size, 9, none⟩ : Addr)), .int .u16 x.status, .pointer (some (⟨w.heap.size + 1, 9, none⟩ : Addr)), .int .u16 y.status, fun ev (h : ev (.tmp 2) = .pointer (some (⟨w.heap.size, 0, none⟩ : Addr))) => by go_simp, fun ev (h1 : ev (.tmp 76) = .pointer (some (⟨w.heap.size, 9, none⟩ : Addr))) => by go_simp, fun ev (h : ev (.tmp 3) = .pointer (some (⟨w.heap.size + 1, 0, none⟩ : Addr))) => by go_simp, fun ev (h3 : ev (.tmp 78) = .pointer (some (⟨w.heap.size + 1, 9, none⟩ : Addr))) => by go_simp, fun ev (h2 : ev (.tmp 77) = .int .u16 x.status) (h4 : ev (.tmp 79) = .int .u16 y.status) => by go_simp⟩
  refine seg_move 68 81 rops1_68 rfl rfl (fun ev (h : ev (.tmp 81) = _) => by go_simp) (by omega) (by omega) x19 y19 w19 fun a20 z20 f20 x20 y20 w20 => ?_
  refine seg 69 68 82 ((x.code != y.code) || (x.fail != y.fail) || (x.addr != y.addr) || (x.count != y.count) || (x.value != y.value) || (x.and_ != y.and_) || (x.or_ != y.or_) || (x.addr2 != y.addr2) || (x.sub != y.sub) || (x.status != y.status)) (x.events != y.events) hL ⟨rops1_69, rops1_70, rops1_71, rops1_72, rops1_73, rops1_74, rops1_68, rfl, rfl, rfl, rfl, rfl, rfl, rfl, rfl, rfl, rfl, rfl, rfl, rfl⟩ ⟨?_, fun ev (h : ev (.tmp 82) = _) (hc : ev (.const (.bool true)) = _) => by go_simp, fun ev c (h : ev (.tmp 82) = _) (h2 : ev (.tmp 87) = _) => by go_simp⟩ (by omega) (by omega) x20 y20 w20 fun a21 z21 f21 x21 y21 w21 => ?_
  · exact ⟨.pointer (some (⟨w.heap.size, 10, none⟩ : Addr)), .int .u16 x.events, .pointer (some (⟨w.heap.size + 1, 10, none⟩ : Addr)), .int .u16 y.events, fun ev (h : ev (.tmp 2) = .pointer (some (⟨w.heap.size, 0, none⟩ : Addr))) => by go_simp, fun ev (h1 : ev (.tmp 83) = .pointer (some (⟨w.heap.size, 10, none⟩ : Addr))) => by go_simp, fun ev (h : ev (.tmp 3) = .pointer (some (⟨w.heap.size + 1, 0, none⟩ : Addr))) => by go_simp, fun ev (h3 : ev (.tmp 85) = .pointer (some (⟨w.heap.size + 1, 10, none⟩ : Addr))) => by go_simp, fun ev (h2 : ev (.tmp 84) = .int .u16 x.events) (h4 : ev (.tmp 86) = .int .u16 y.events) => by go_simp⟩
  refine seg_move 75 88 rops1_75 rfl rfl (fun ev (h : ev (.tmp 88) = _) => by go_simp) (by omega) (by omega) x21 y21 w21 fun a22 z22 f22 x22 y22 w22 => ?_
  refine seg 76 75 89 ((x.code != y.code) || (x.fail != y.fail) || (x.addr != y.addr) || (x.count != y.count) || (x.value != y.value) || (x.and_ != y.and_) || (x.or_ != y.or_) || (x.addr2 != y.addr2) || (x.sub != y.sub) || (x.status != y.status) || (x.events != y.events)) (x.messages != y.messages) hL ⟨rops1_76, rops1_77, rops1_78, rops1_79, rops1_80, rops1_81, rops1_75, rfl, rfl, rfl, rfl, rfl, rfl, rfl, rfl, rfl, rfl, rfl, rfl, rfl⟩ ⟨?_, fun ev (h : ev (.tmp 89) = _) (hc : ev (.const (.bool true)) = _) => by go_simp, fun ev c (h : ev (.tmp 89) = _) (h2 : ev (.tmp 94) = _) => by go_simp⟩ (by omega) (by omega) x22 y22 w22 fun a23 z23 f23 x23 y23 w23 => ?_
  · exact ⟨.pointer (some (⟨w.heap.size, 11, none⟩ : Addr)), .int .u16 x.messages, .pointer (some (⟨w.heap.size + 1, 11, none⟩ : Addr)), .int .u16 y.messages, fun ev (h : ev (.tmp 2) = .pointer (some (⟨w.heap.size, 0, none⟩ : Addr))) => by go_simp, fun ev (h1 : ev (.tmp 90) = .pointer (some (⟨w.heap.size, 11, none⟩ : Addr))) => by go_simp, fun ev (h : ev (.tmp 3) = .pointer (some (⟨w.heap.size + 1, 0, none⟩ : Addr))) => by go_simp, fun ev (h3 : ev (.tmp 92) = .pointer (some (⟨w.heap.size + 1, 11, none⟩ : Addr))) => by go_simp, fun ev (h2 : ev (.tmp 91) = .int .u16 x.messages) (h4 : ev (.tmp 93) = .int .u16 y.messages) => by go_simp⟩
  exact sd_nil (h a23 (by omega) (by rw [f23, f22, f21, f20, f19, f18, f17, f16, f15, f14, f13, f12, f11, f10, f9, f8, f7, f6, f5, f4, f3, f2, f1]) x23 y23 w23)
theorem reg3_any (x y : Msg) (w wc : World) (Q : Exit → Act → World → Prop) (a : Act) (px16 : wc.cell? ⟨w.heap.size, 16, none⟩ = some (.int .u8 x.mei)) (py16 : wc.cell? ⟨w.heap.size + 1, 16, none⟩ = some (.int .u8 y.mei)) (px17 : wc.cell? ⟨w.heap.size, 17, none⟩ = some (.int .u8 x.kind)) (py17 : wc.cell? ⟨w.heap.size + 1, 17, none⟩ = some (.int .u8 y.kind)) (px18 : wc.cell? ⟨w.heap.size, 18, none⟩ = some (.int .u8 x.level)) (py18 : wc.cell? ⟨w.heap.size + 1, 18, none⟩ = some (.int .u8 y.level)) (px19 : wc.cell? ⟨w.heap.size, 19, none⟩ = some (.int .u8 x.more)) (py19 : wc.cell? ⟨w.heap.size + 1, 19, none⟩ = some (.int .u8 y.more)) (px20 : wc.cell? ⟨w.heap.size, 20, none⟩ = some (.int .u8 x.next)) (py20 : wc.cell? ⟨w.heap.size + 1, 20, none⟩ = some (.int .u8 y.next)) (hs : a.tmps.size = 254) (hx : a.tmps[2]? = some (.pointer (some ⟨w.heap.size, 0, none⟩))) (hy : a.tmps[3]? = some (.pointer (some ⟨w.heap.size + 1, 0, none⟩)))
    (h : ∀ a' : Act, a'.tmps.size = 254 → a'.defers = a.defers → a'.tmps[2]? = some (.pointer (some ⟨w.heap.size, 0, none⟩)) → a'.tmps[3]? = some (.pointer (some ⟨w.heap.size + 1, 0, none⟩)) → a'.tmps[128]? = some (.bool ((x.mei != y.mei) || (x.kind != y.kind) || (x.level != y.level) || (x.more != y.more) || (x.next != y.next))) → Q .normal a' wc) : wpList Try.prog (opsOf Try.f14 3) Q (opsOf Try.f14 3).toList a wc := by
  have hu1 := Try.underlying30
  have hL : (opsOf Try.f14 3).toList = rops3 := rfl
  suffices hS : SD Try.prog (opsOf Try.f14 3) Q (rops3.drop 0) a wc from hS.out
  refine seg0 (r := (x.mei != y.mei)) 95 rops3_0 rops3_1 rops3_2 rops3_3 rops3_4 rfl rfl rfl rfl rfl rfl rfl rfl rfl rfl ?_ (by omega) (by omega) hx hy fun a1 z1 f1 x1 y1 w1 => ?_
  · exact ⟨.pointer (some (⟨w.heap.size, 16, none⟩ : Addr)), .int .u8 x.mei, .pointer (some (⟨w.heap.size + 1, 16, none⟩ : Addr)), .int .u8 y.mei, fun ev (h : ev (.tmp 2) = .pointer (some (⟨w.heap.size, 0, none⟩ : Addr))) => by go_simp, fun ev (h1 : ev (.tmp 96) = .pointer (some (⟨w.heap.size, 16, none⟩ : Addr))) => by go_simp, fun ev (h : ev (.tmp 3) = .pointer (some (⟨w.heap.size + 1, 0, none⟩ : Addr))) => by go_simp, fun ev (h3 : ev (.tmp 98) = .pointer (some (⟨w.heap.size + 1, 16, none⟩ : Addr))) => by go_simp, fun ev (h2 : ev (.tmp 97) = .int .u8 x.mei) (h4 : ev (.tmp 99) = .int .u8 y.mei) => by go_simp⟩
  refine seg_move 5 100 rops3_5 rfl rfl (fun ev (h : ev (.tmp 100) = _) => by go_simp) (by omega) (by omega) x1 y1 w1 fun a2 z2 f2 x2 y2 w2 => ?_
  refine seg 6 5 101 ((x.mei != y.mei)) (x.kind != y.kind) hL ⟨rops3_6, rops3_7, rops3_8, rops3_9, rops3_10, rops3_11, rops3_5, rfl, rfl, rfl, rfl, rfl, rfl, rfl, rfl, rfl, rfl, rfl, rfl, rfl⟩ ⟨?_, fun ev (h : ev (.tmp 101) = _) (hc : ev (.const (.bool true)) = _) => by go_simp, fun ev c (h : ev (.tmp 101) = _) (h2 : ev (.tmp 106) = _) => by go_simp⟩ (by omega) (by omega) x2 y2 w2 fun a3 z3 f3 x3 y3 w3 => ?_
  · exact ⟨.pointer (some (⟨w.heap.size, 17, none⟩ : Addr)), .int .u8 x.kind, .pointer (some (⟨w.heap.size + 1, 17, none⟩ : Addr)), .int .u8 y.kind, fun ev (h : ev (.tmp 2) = .pointer (some (⟨w.heap.size, 0, none⟩ : Addr))) => by go_simp, fun ev (h1 : ev (.tmp 102) = .pointer (some (⟨w.heap.size, 17, none⟩ : Addr))) => by go_simp, fun ev (h : ev (.tmp 3) = .pointer (some (⟨w.heap.size + 1, 0, none⟩ : Addr))) => by go_simp, fun ev (h3 : ev (.tmp 104) = .pointer (some (⟨w.heap.size + 1, 17, none⟩ : Addr))) => by go_simp, fun ev (h2 : ev (.tmp 103) = .int .u8 x.kind) (h4 : ev (.tmp 105) = .int .u8 y.kind) => by go_simp⟩
  refine seg_move 12 107 rops3_12 rfl rfl (fun ev (h : ev (.tmp 107) = _) => by go_simp) (by omega) (by omega) x3 y3 w3 fun a4 z4 f4 x4 y4 w4 => ?_
  refine seg 13 12 108 ((x.mei != y.mei) || (x.kind != y.kind)) (x.level != y.level) hL ⟨rops3_13, rops3_14, rops3_15, rops3_16, rops3_17, rops3_18, rops3_12, rfl, rfl, rfl, rfl, rfl, rfl, rfl, rfl, rfl, rfl, rfl, rfl, rfl⟩ ⟨?_, fun ev (h : ev (.tmp 108) = _) (hc : ev (.const (.bool true)) = _) => by go_simp, fun ev c (h : ev (.tmp 108) = _) (h2 : ev (.tmp 113) = _) => by go_simp⟩ (by omega) (by omega) x4 y4 w4 fun a5 z5 f5 x5 y5 w5 => ?_
  · exact ⟨.pointer (some (⟨w.heap.size, 18, none⟩ : Addr)), .int .u8 x.level, .pointer (some (⟨w.heap.size + 1, 18, none⟩ : Addr)), .int .u8 y.level, fun ev (h : ev (.tmp 2) = .pointer (some (⟨w.heap.size, 0, none⟩ : Addr))) => by go_simp, fun ev (h1 : ev (.tmp 109) = .pointer (some (⟨w.heap.size, 18, none⟩ : Addr))) => by go_simp, fun ev (h : ev (.tmp 3) = .pointer (some (⟨w.heap.size + 1, 0, none⟩ : Addr))) => by go_simp, fun ev (h3 : ev (.tmp 111) = .pointer (some (⟨w.heap.size + 1, 18, none⟩ : Addr))) => by go_simp, fun ev (h2 : ev (.tmp 110) = .int .u8 x.level) (h4 : ev (.tmp 112) = .int .u8 y.level) => by go_simp⟩
  refine seg_move 19 114 rops3_19 rfl rfl (fun ev (h : ev (.tmp 114) = _) => by go_simp) (by omega) (by omega) x5 y5 w5 fun a6 z6 f6 x6 y6 w6 => ?_
  refine seg 20 19 115 ((x.mei != y.mei) || (x.kind != y.kind) || (x.level != y.level)) (x.more != y.more) hL ⟨rops3_20, rops3_21, rops3_22, rops3_23, rops3_24, rops3_25, rops3_19, rfl, rfl, rfl, rfl, rfl, rfl, rfl, rfl, rfl, rfl, rfl, rfl, rfl⟩ ⟨?_, fun ev (h : ev (.tmp 115) = _) (hc : ev (.const (.bool true)) = _) => by go_simp, fun ev c (h : ev (.tmp 115) = _) (h2 : ev (.tmp 120) = _) => by go_simp⟩ (by omega) (by omega) x6 y6 w6 fun a7 z7 f7 x7 y7 w7 => ?_
  · exact ⟨.pointer (some (⟨w.heap.size, 19, none⟩ : Addr)), .int .u8 x.more, .pointer (some (⟨w.heap.size + 1, 19, none⟩ : Addr)), .int .u8 y.more, fun ev (h : ev (.tmp 2) = .pointer (some (⟨w.heap.size, 0, none⟩ : Addr))) => by go_simp, fun ev (h1 : ev (.tmp 116) = .pointer (some (⟨w.heap.size, 19, none⟩ : Addr))) => by go_simp, fun ev (h : ev (.tmp 3) = .pointer (some (⟨w.heap.size + 1, 0, none⟩ : Addr))) => by go_simp, fun ev (h3 : ev (.tmp 118) = .pointer (some (⟨w.heap.size + 1, 19, none⟩ : Addr))) => by go_simp, fun ev (h2 : ev (.tmp 117) = .int .u8 x.more) (h4 : ev (.tmp 119) = .int .u8 y.more) => by go_simp⟩
  refine seg_move 26 121 rops3_26 rfl rfl (fun ev (h : ev (.tmp 121) = _) => by go_simp) (by omega) (by omega) x7 y7 w7 fun a8 z8 f8 x8 y8 w8 => ?_
  refine seg 27 26 122 ((x.mei != y.mei) || (x.kind != y.kind) || (x.level != y.level) || (x.more != y.more)) (x.next != y.next) hL ⟨rops3_27, rops3_28, rops3_29, rops3_30, rops3_31, rops3_32, rops3_26, rfl, rfl, rfl, rfl, rfl, rfl, rfl, rfl, rfl, rfl, rfl, rfl, rfl⟩ ⟨?_, fun ev (h : ev (.tmp 122) = _) (hc : ev (.const (.bool true)) = _) => by go_simp, fun ev c (h : ev (.tmp 122) = _) (h2 : ev (.tmp 127) = _) => by go_simp⟩ (by omega) (by omega) x8 y8 w8 fun a9 z9 f9 x9 y9 w9 => ?_
  · exact ⟨.pointer (some (⟨w.heap.size, 20, none⟩ : Addr)), .int .u8 x.next, .pointer (some (⟨w.heap.size + 1, 20, none⟩ : Addr)), .int .u8 y.next, fun ev (h : ev (.tmp 2) = .pointer (some (⟨w.heap.size, 0, none⟩ : Addr))) => by go_simp, fun ev (h1 : ev (.tmp 123) = .pointer (some (⟨w.heap.size, 20, none⟩ : Addr))) => by go_simp, fun ev (h : ev (.tmp 3) = .pointer (some (⟨w.heap.size + 1, 0, none⟩ : Addr))) => by go_simp, fun ev (h3 : ev (.tmp 125) = .pointer (some (⟨w.heap.size + 1, 20, none⟩ : Addr))) => by go_simp, fun ev (h2 : ev (.tmp 124) = .int .u8 x.next) (h4 : ev (.tmp 126) = .int .u8 y.next) => by go_simp⟩
  exact sd_nil (h a9 (by omega) (by rw [f9, f8, f7, f6, f5, f4, f3, f2, f1]) x9 y9 w9)
end Go.Proofs.Ytalaochocmcbcaa.Same
end
section
namespace Go.Proofs.Ytalaochocmcbcaa.Same
open Go.RowKit Go.Proofs.Ytalaochocmcbcaa.P Go.Proofs.Ytalaochocmcbcaa.E Go.Proofs.YtalaochocmcbcaaW.PrintWords Go.Proofs.YtalaochocmcbcaaW.PrintLast Go.Proofs.YtalaochocmcbcaaW.PrintMore
theorem ref_diff (x y : Msg) (Ax12 : Option Addr) (cx12 : Nat) (Ax13 : Option Addr) (cx13 : Nat) (Ax14 : Option Addr) (cx14 : Nat) (Ax15 : Option Addr) (cx15 : Nat) (Ax21 : Option Addr) (cx21 : Nat) (Ay12 : Option Addr) (cy12 : Nat) (Ay13 : Option Addr) (cy13 : Nat) (Ay14 : Option Addr) (cy14 : Nat) (Ay15 : Option Addr) (cy15 : Nat) (Ay21 : Option Addr) (cy21 : Nat) (w : World) (hp : plainB x y = false) :
    Calls Try.prog 14 #[.agg #[.int .u8 x.code, .int .u8 x.fail, .int .u16 x.addr, .int .u16 x.count, .int .u16 x.value, .int .u16 x.and_, .int .u16 x.or_, .int .u16 x.addr2, .int .u16 x.sub, .int .u16 x.status, .int .u16 x.events, .int .u16 x.messages, .slice Ax12 x.words.length cx12, .slice Ax13 x.bits.length cx13, .slice Ax14 x.data.length cx14, .slice Ax15 x.recs.length cx15, .int .u8 x.mei, .int .u8 x.kind, .int .u8 x.level, .int .u8 x.more, .int .u8 x.next, .slice Ax21 x.objects.length cx21], .agg #[.int .u8 y.code, .int .u8 y.fail, .int .u16 y.addr, .int .u16 y.count, .int .u16 y.value, .int .u16 y.and_, .int .u16 y.or_, .int .u16 y.addr2, .int .u16 y.sub, .int .u16 y.status, .int .u16 y.events, .int .u16 y.messages, .slice Ay12 y.words.length cy12, .slice Ay13 y.bits.length cy13, .slice Ay14 y.data.length cy14, .slice Ay15 y.recs.length cy15, .int .u8 y.mei, .int .u8 y.kind, .int .u8 y.level, .int .u8 y.more, .int .u8 y.next, .slice Ay21 y.objects.length cy21]] w fun e w' => e = .returned (.bool false) ∧ Below w.heap.size w w' := by
  have hu1 := Try.underlying30
  go_enter Try.func14, Try.ntmps14
  go_upto_region 1 with (fail)
  obtain ⟨wc, hwc⟩ : ∃ wc, wc = ((w.alloc (.cells (#[.int .u8 x.code, .int .u8 x.fail, .int .u16 x.addr, .int .u16 x.count, .int .u16 x.value, .int .u16 x.and_, .int .u16 x.or_, .int .u16 x.addr2, .int .u16 x.sub, .int .u16 x.status, .int .u16 x.events, .int .u16 x.messages, .slice Ax12 x.words.length cx12, .slice Ax13 x.bits.length cx13, .slice Ax14 x.data.length cx14, .slice Ax15 x.recs.length cx15, .int .u8 x.mei, .int .u8 x.kind, .int .u8 x.level, .int .u8 x.more, .int .u8 x.next, .slice Ax21 x.objects.length cx21] : Array Value) 30)).alloc (.cells (#[.int .u8 y.code, .int .u8 y.fail, .int .u16 y.addr, .int .u16 y.count, .int .u16 y.value, .int .u16 y.and_, .int .u16 y.or_, .int .u16 y.addr2, .int .u16 y.sub, .int .u16 y.status, .int .u16 y.events, .int .u16 y.messages, .slice Ay12 y.words.length cy12, .slice Ay13 y.bits.length cy13, .slice Ay14 y.data.length cy14, .slice Ay15 y.recs.length cy15, .int .u8 y.mei, .int .u8 y.kind, .int .u8 y.level, .int .u8 y.more, .int .u8 y.next, .slice Ay21 y.objects.length cy21] : Array Value) 30)) := ⟨_, rfl⟩
  rw [← hwc]
  have px0 : wc.cell? ⟨w.heap.size, 0, none⟩ = some (.int .u8 x.code) := by rw [hwc]; exact box_x0 _ _ _ _ 0
  have py0 : wc.cell? ⟨w.heap.size + 1, 0, none⟩ = some (.int .u8 y.code) := by rw [hwc]; exact box_y0 _ _ _ _ 0
  have px1 : wc.cell? ⟨w.heap.size, 1, none⟩ = some (.int .u8 x.fail) := by rw [hwc]; exact box_x0 _ _ _ _ 1
  have py1 : wc.cell? ⟨w.heap.size + 1, 1, none⟩ = some (.int .u8 y.fail) := by rw [hwc]; exact box_y0 _ _ _ _ 1
  have px2 : wc.cell? ⟨w.heap.size, 2, none⟩ = some (.int .u16 x.addr) := by rw [hwc]; exact box_x0 _ _ _ _ 2
  have py2 : wc.cell? ⟨w.heap.size + 1, 2, none⟩ = some (.int .u16 y.addr) := by rw [hwc]; exact box_y0 _ _ _ _ 2
  have px3 : wc.cell? ⟨w.heap.size, 3, none⟩ = some (.int .u16 x.count) := by rw [hwc]; exact box_x0 _ _ _ _ 3
  have py3 : wc.cell? ⟨w.heap.size + 1, 3, none⟩ = some (.int .u16 y.count) := by rw [hwc]; exact box_y0 _ _ _ _ 3
  have px4 : wc.cell? ⟨w.heap.size, 4, none⟩ = some (.int .u16 x.value) := by rw [hwc]; exact box_x0 _ _ _ _ 4
  have py4 : wc.cell? ⟨w.heap.size + 1, 4, none⟩ = some (.int .u16 y.value) := by rw [hwc]; exact box_y0 _ _ _ _ 4
  have px5 : wc.cell? ⟨w.heap.size, 5, none⟩ = some (.int .u16 x.and_) := by rw [hwc]; exact box_x0 _ _ _ _ 5
  have py5 : wc.cell? ⟨w.heap.size + 1, 5, none⟩ = some (.int .u16 y.and_) := by rw [hwc]; exact box_y0 _ _ _ _ 5
  have px6 : wc.cell? ⟨w.heap.size, 6, none⟩ = some (.int .u16 x.or_) := by rw [hwc]; exact box_x0 _ _ _ _ 6
  have py6 : wc.cell? ⟨w.heap.size + 1, 6, none⟩ = some (.int .u16 y.or_) := by rw [hwc]; exact box_y0 _ _ _ _ 6
  have px7 : wc.cell? ⟨w.heap.size, 7, none⟩ = some (.int .u16 x.addr2) := by rw [hwc]; exact box_x0 _ _ _ _ 7
  have py7 : wc.cell? ⟨w.heap.size + 1, 7, none⟩ = some (.int .u16 y.addr2) := by rw [hwc]; exact box_y0 _ _ _ _ 7
  have px8 : wc.cell? ⟨w.heap.size, 8, none⟩ = some (.int .u16 x.sub) := by rw [hwc]; exact box_x0 _ _ _ _ 8
  have py8 : wc.cell? ⟨w.heap.size + 1, 8, none⟩ = some (.int .u16 y.sub) := by rw [hwc]; exact box_y0 _ _ _ _ 8
  have px9 : wc.cell? ⟨w.heap.size, 9, none⟩ = some (.int .u16 x.status) := by rw [hwc]; exact box_x0 _ _ _ _ 9
  have py9 : wc.cell? ⟨w.heap.size + 1, 9, none⟩ = some (.int .u16 y.status) := by rw [hwc]; exact box_y0 _ _ _ _ 9
  have px10 : wc.cell? ⟨w.heap.size, 10, none⟩ = some (.int .u16 x.events) := by rw [hwc]; exact box_x0 _ _ _ _ 10
  have py10 : wc.cell? ⟨w.heap.size + 1, 10, none⟩ = some (.int .u16 y.events) := by rw [hwc]; exact box_y0 _ _ _ _ 10
  have px11 : wc.cell? ⟨w.heap.size, 11, none⟩ = some (.int .u16 x.messages) := by rw [hwc]; exact box_x0 _ _ _ _ 11
  have py11 : wc.cell? ⟨w.heap.size + 1, 11, none⟩ = some (.int .u16 y.messages) := by rw [hwc]; exact box_y0 _ _ _ _ 11
  have px16 : wc.cell? ⟨w.heap.size, 16, none⟩ = some (.int .u8 x.mei) := by rw [hwc]; exact box_x0 _ _ _ _ 16
  have py16 : wc.cell? ⟨w.heap.size + 1, 16, none⟩ = some (.int .u8 y.mei) := by rw [hwc]; exact box_y0 _ _ _ _ 16
  have px17 : wc.cell? ⟨w.heap.size, 17, none⟩ = some (.int .u8 x.kind) := by rw [hwc]; exact box_x0 _ _ _ _ 17
  have py17 : wc.cell? ⟨w.heap.size + 1, 17, none⟩ = some (.int .u8 y.kind) := by rw [hwc]; exact box_y0 _ _ _ _ 17
  have px18 : wc.cell? ⟨w.heap.size, 18, none⟩ = some (.int .u8 x.level) := by rw [hwc]; exact box_x0 _ _ _ _ 18
  have py18 : wc.cell? ⟨w.heap.size + 1, 18, none⟩ = some (.int .u8 y.level) := by rw [hwc]; exact box_y0 _ _ _ _ 18
  have px19 : wc.cell? ⟨w.heap.size, 19, none⟩ = some (.int .u8 x.more) := by rw [hwc]; exact box_x0 _ _ _ _ 19
  have py19 : wc.cell? ⟨w.heap.size + 1, 19, none⟩ = some (.int .u8 y.more) := by rw [hwc]; exact box_y0 _ _ _ _ 19
  have px20 : wc.cell? ⟨w.heap.size, 20, none⟩ = some (.int .u8 x.next) := by rw [hwc]; exact box_x0 _ _ _ _ 20
  have py20 : wc.cell? ⟨w.heap.size + 1, 20, none⟩ = some (.int .u8 y.next) := by rw [hwc]; exact box_y0 _ _ _ _ 20
  have hB : Below w.heap.size w wc := by rw [hwc]; exact ((Below.refl _ _).alloc (Nat.le_refl _) _).alloc (by simp) _
  have HB := Aside0.mk hB
  clear hB hwc
  refine wp_region_list ?_
  refine reg1_any x y  w wc _ _ px0 py0 px1 py1 px2 py2 px3 py3 px4 py4 px5 py5 px6 py6 px7 py7 px8 py8 px9 py9 px10 py10 px11 py11 (by rfl) rfl rfl ?_
  intro a1 z1 f1 x1 y1 s1
  cases v1 : ((x.code != y.code) || (x.fail != y.fail) || (x.addr != y.addr) || (x.count != y.count) || (x.value != y.value) || (x.and_ != y.and_) || (x.or_ != y.or_) || (x.addr2 != y.addr2) || (x.sub != y.sub) || (x.status != y.status) || (x.events != y.events) || (x.messages != y.messages)) with
  | true =>
    rw [v1] at s1
    obtain ⟨t1, q1⟩ := a1
    have f1n : q1 = [] := f1
    clear f1
    subst f1n
    have g1 : t1.getD 95 undef = .bool true := by rw [Array.getD_eq_getD_getElem?, s1]; rfl
    go_wp2
    refine wp_cond_true (show t1.getD 95 undef = _ from g1) ?_
    go_wp2
    exact bodyPost_ret (v := .bool false) (by simp [results, Try.results14, go_sem, *]) rfl ⟨rfl, HB.out⟩ -- t1.setIfInBounds 4 (.bool false)
  | false =>
    rw [v1] at s1
    obtain ⟨t1, q1⟩ := a1
    have f1n : q1 = [] := f1
    clear f1
    subst f1n
    have g1 : t1.getD 95 undef = .bool false := by rw [Array.getD_eq_getD_getElem?, s1]; rfl
    go_wp2
    refine wp_cond_false (show t1.getD 95 undef = _ from g1) ?_
    go_upto_region 3 with (fail)
    refine wp_region_list ?_
    refine reg3_any x y w wc _ _ px16 py16 px17 py17 px18 py18 px19 py19 px20 py20 z1 x1 y1 ?_
    intro a2 z2 f2 x2 y2 s2
    have v2 : ((x.mei != y.mei) || (x.kind != y.kind) || (x.level != y.level) || (x.more != y.more) || (x.next != y.next)) = true := by
      simp only [Bool.or_eq_false_iff] at v1
      cases hv : ((x.mei != y.mei) || (x.kind != y.kind) || (x.level != y.level) || (x.more != y.more) || (x.next != y.next)) with
      | true => rfl
      | false =>
        simp only [Bool.or_eq_false_iff] at hv
        exfalso
        unfold plainB at hp
        simp only [bne_eq_false_iff_eq] at v1 hv
        simp [v1, hv] at hp
    rw [v2] at s2
    obtain ⟨t2, q2⟩ := a2
    have f2n : q2 = [] := f2
    clear f2
    subst f2n
    have g2 : t2.getD 128 undef = .bool true := by rw [Array.getD_eq_getD_getElem?, s2]; rfl
    go_wp2
    refine wp_cond_true (show t2.getD 128 undef = _ from g2) ?_
    go_wp2
    exact bodyPost_ret (v := .bool false) (by simp [results, Try.results14, go_sem, *]) rfl ⟨rfl, HB.out⟩ -- t2
end Go.Proofs.Ytalaochocmcbcaa.Same
end
