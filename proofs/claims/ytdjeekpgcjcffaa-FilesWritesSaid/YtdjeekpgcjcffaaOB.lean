/- What the laws of this chapter rest on, part 2: what the functions that they reach answer, each shown once. Conditions: what each theorem states. (Merged by a program of this session, wip/tools/merge.py, out of its own texts and of the words that the kit's print wrote for this seat, cut to those that are used.) -/
import Derived.Deep.MidRow
import Derived.Test.YtdjeekpgcjcffaaProg
import Derived.Lib.SliceRun
import Derived.Test.YtdjeekpgcjcffaaOA
set_option linter.unusedVariables false
set_option linter.unusedSimpArgs false
set_option maxHeartbeats 16000000
set_option maxRecDepth 100000
section
namespace Go.Proofs.Ytdjeekpgcjcffaa.P
open Go.RowKit Go.Proofs.YtdjeekpgcjcffaaW.PrintWords Go.Proofs.YtdjeekpgcjcffaaW.PrintLast Go.Proofs.YtdjeekpgcjcffaaW.PrintMore
attribute [local go_sem] max2_int min2_int max_two min_two max_three min_three max_four min_four   -- for this text's walks alone
def busbarref01_Bools.l0 : Nat → List Bool → List Bool → Int → Option (Bool)
  | 0, _, _, _ => none
  | k + 1, x0, x1, x5 => if x5 < (x0.length : Int) then (if 0 ≤ x5 then (if x5 < (x1.length : Int) then (if ((rdOf false x0 x5) != (rdOf false x1 x5)) = true then (some false) else (busbarref01_Bools.l0 k x0 x1 (wrap64 (x5 + 1)))) else (none)) else (none)) else (some true)
def busbarref01_Bools.f (k : Nat) (l0 : List Bool) (l1 : List Bool) : Option (Bool) := if (l0.length : Int) = (l1.length : Int) then (busbarref01_Bools.l0 k l0 l1 0) else (some false)
theorem busbarref01_Bools.mono_l : ∀ k, (∀ y0 y1 y2, LeO (busbarref01_Bools.l0 k y0 y1 y2) (busbarref01_Bools.l0 (k + 1) y0 y1 y2))
  | 0 => fun _ _ _ r h => by simp [busbarref01_Bools.l0] at h
  | k + 1 => by
    have ih0 := busbarref01_Bools.mono_l k
    · intro y0 y1 y2
      unfold busbarref01_Bools.l0
      repeat' first
      | (with_reducible exact ih0 _ _ _)
      | (with_reducible exact LeO.refl _)
      | (with_reducible exact LeO.none _)
      | (with_reducible refine LeO.ite ?_ ?_)
      | (with_reducible refine LeO.bind ?_ (fun _ => ?_))
      | exact ih0 _ _ _
      | exact LeO.none _
      | refine LeO.ite ?_ ?_
      | refine LeO.bind ?_ (fun _ => ?_)
theorem busbarref01_Bools.mono : ∀ a0 a1 k, LeO (busbarref01_Bools.f k a0 a1) (busbarref01_Bools.f (k + 1) a0 a1) := by
  intro a0 a1 k
  have ih0 := busbarref01_Bools.mono_l k
  unfold busbarref01_Bools.f
  repeat' first
      | (with_reducible exact ih0 _ _ _)
      | (with_reducible exact LeO.refl _)
      | (with_reducible exact LeO.none _)
      | (with_reducible refine LeO.ite ?_ ?_)
      | (with_reducible refine LeO.bind ?_ (fun _ => ?_))
      | exact ih0 _ _ _
      | exact LeO.none _
      | refine LeO.ite ?_ ?_
      | refine LeO.bind ?_ (fun _ => ?_)
theorem busbarref01_Bools.calls (k : Nat) (A0 : Option Addr) (c0 : Nat) (l0 : List Bool) (A1 : Option Addr) (c1 : Nat) (l1 : List Bool) (r : Bool) (w : World) (hr0 : Kd.C Kd.bool w A0 l0.length l0) (hc0 : l0.length ≤ c0) (hr1 : Kd.C Kd.bool w A1 l1.length l1) (hc1 : l1.length ≤ c1) (h : busbarref01_Bools.f k l0 l1 = some r) :
    Calls Try.prog 30 #[.slice A0 l0.length c0, .slice A1 l1.length c1] w fun e w' => e = .returned (.bool r) ∧ Drawn0 w w' := by
  have HR0 := Aside0.mk hr0
  have HC0 := Aside0.mk hc0
  clear hr0 hc0
  have HR1 := Aside0.mk hr1
  have HC1 := Aside0.mk hc1
  clear hr1 hc1
  have H : (if (l0.length : Int) = (l1.length : Int) then (busbarref01_Bools.l0 k l0 l1 0) else (some false)) = some r := h
  clear h
  by_cases c3 : (l0.length : Int) = (l1.length : Int)
  · rw [if_pos c3] at H
    have c3b0 : ((l0.length : Int) == (l1.length : Int)) = true := beq_iff_eq.mpr c3
    have c3b1 : ((l0.length : Int) != (l1.length : Int)) = false := bne_eq_false_iff_eq.mpr c3
    have c3b2 : (l0.length == l1.length) = true := by first | simpa using c3 | (simp at c3 ⊢; omega)
    clear c3
    have H' := Aside0.mk H
    clear H
    go_enter Try.func30, Try.ntmps30
    go_wp2
    repeat (go_quiet (fail); try go_wp2)
    go_loopg [5] k (fun kq v5 w' => ∃ (x5_1 : Int), v5 = .int .i64 x5_1 ∧ Aside0 (busbarref01_Bools.l0 kq l0 l1 x5_1 = some r) ∧ Aside0 (kq ≤ k) ∧ Drawn0 w w')
    case atStart => exact ⟨(0), (by first | rfl | (simp; done) | (simp [*]; done)), H', ⟨Nat.le_refl _⟩, by repeat (first | exact Drawn0.refl _ | apply Drawn0.step)⟩
    case round =>
      clear H'
      try clear c1
      try clear p2
      try clear c3
      try clear c3b0
      try clear c3b1
      try clear c3b2
      obtain ⟨x5_1, rfl, HA, HK1, ⟨m1, rfl⟩⟩ := hrel
      cases gk with
      | zero => exact absurd HA.out (by simp [busbarref01_Bools.l0])
      | succ k1 =>
        have H := HA.out
        clear HA
        simp only [busbarref01_Bools.l0] at H
        by_cases c4 : x5_1 < (l0.length : Int)
        · rw [if_pos c4] at H
          have c4b0 : decide (x5_1 < (l0.length : Int)) = true := decide_eq_true c4
          clear c4
          by_cases c5 : 0 ≤ x5_1
          · rw [if_pos c5] at H
            have c5b0 : decide (0 ≤ x5_1) = true := decide_eq_true c5
            clear c5
            by_cases c6 : x5_1 < (l1.length : Int)
            · rw [if_pos c6] at H
              have c6b0 : decide (x5_1 < (l1.length : Int)) = true := decide_eq_true c6
              clear c6
              by_cases c7 : ((rdOf false l0 x5_1) != (rdOf false l1 x5_1)) = true
              · rw [if_pos c7] at H
                have c7b0 : ((rdOf false l0 x5_1) != (rdOf false l1 x5_1)) = true := c7
                (try (have c7b1 : decide ((rdOf false l0 x5_1) = (rdOf false l1 x5_1)) = false := by simpa using c7))
                (try (have c7b2 : ((rdOf false l0 x5_1) == (rdOf false l1 x5_1)) = false := by simpa using c7))
                (try (have c7b3 : ¬ ((rdOf false l0 x5_1) = (rdOf false l1 x5_1)) := by simpa using c7))
                clear c7
                obtain rfl := Option.some.inj H
                have p203 : 0 ≤ (x5_1 : Int) := of_decide_eq_true (by first | (with_reducible assumption) | assumption)
                have q203 : x5_1 < (l0.length : Int) := of_decide_eq_true (by first | (with_reducible assumption) | assumption)
                obtain ⟨ad203, e203, hx203_0⟩ := Kd.at_bool HR0.out x5_1 p203 q203
                cases e203
                replace p203 := eq_true p203
                replace q203 := eq_true q203
                have p204 : 0 ≤ (x5_1 : Int) := of_decide_eq_true (by first | (with_reducible assumption) | assumption)
                have q204 : x5_1 < (l1.length : Int) := of_decide_eq_true (by first | (with_reducible assumption) | assumption)
                obtain ⟨ad204, e204, hx204_0⟩ := Kd.at_bool HR1.out x5_1 p204 q204
                cases e204
                replace p204 := eq_true p204
                replace q204 := eq_true q204
                go_wp2
                repeat (go_quiet (fail); try go_wp2)
                go_ret
                exact ⟨by first | rfl | (simp; done) | (simp [*]; done), by repeat (first | exact Drawn0.refl _ | apply Drawn0.step)⟩
              · rw [if_neg c7] at H
                have c7b0 : ((rdOf false l0 x5_1) != (rdOf false l1 x5_1)) = false := by simpa using c7
                (try (have c7b1 : decide ((rdOf false l0 x5_1) = (rdOf false l1 x5_1)) = true := by simpa using c7))
                (try (have c7b2 : ((rdOf false l0 x5_1) == (rdOf false l1 x5_1)) = true := by simpa using c7))
                clear c7
                have H' := Aside0.mk H
                clear H
                have p203 : 0 ≤ (x5_1 : Int) := of_decide_eq_true (by first | (with_reducible assumption) | assumption)
                have q203 : x5_1 < (l0.length : Int) := of_decide_eq_true (by first | (with_reducible assumption) | assumption)
                obtain ⟨ad203, e203, hx203_0⟩ := Kd.at_bool HR0.out x5_1 p203 q203
                cases e203
                replace p203 := eq_true p203
                replace q203 := eq_true q203
                have p204 : 0 ≤ (x5_1 : Int) := of_decide_eq_true (by first | (with_reducible assumption) | assumption)
                have q204 : x5_1 < (l1.length : Int) := of_decide_eq_true (by first | (with_reducible assumption) | assumption)
                obtain ⟨ad204, e204, hx204_0⟩ := Kd.at_bool HR1.out x5_1 p204 q204
                cases e204
                replace p204 := eq_true p204
                replace q204 := eq_true q204
                go_wp2
                repeat (go_quiet (fail); try go_wp2)
                go_roundg k1
                case measure => have := HK1.out; omega
                case rel => exact ⟨(wrap64 (x5_1 + 1)), (by first | rfl | (simp; done) | (simp [*]; done)), H', ⟨by have := HK1.out; omega⟩, by repeat (first | exact Drawn0.refl _ | apply Drawn0.step)⟩
            · rw [if_neg c6] at H
              exact absurd H (by simp)
          · rw [if_neg c5] at H
            exact absurd H (by simp)
        · rw [if_neg c4] at H
          have c4b0 : decide (x5_1 < (l0.length : Int)) = false := decide_eq_false c4
          clear c4
          obtain rfl := Option.some.inj H
          go_wp2
          repeat (go_quiet (fail); try go_wp2)
          go_ret
          exact ⟨by first | rfl | (simp; done) | (simp [*]; done), by repeat (first | exact Drawn0.refl _ | apply Drawn0.step)⟩
  · rw [if_neg c3] at H
    have c3b0 : ((l0.length : Int) == (l1.length : Int)) = false := beq_eq_false_iff_ne.mpr c3
    have c3b1 : ((l0.length : Int) != (l1.length : Int)) = true := bne_iff_ne.mpr c3
    have c3b2 : (l0.length == l1.length) = false := by first | simpa using c3 | (simp at c3 ⊢; omega)
    obtain rfl := Option.some.inj H
    go_enter Try.func30, Try.ntmps30
    go_wp2
    repeat (go_quiet (fail); try go_wp2)
    go_ret
    exact ⟨by first | rfl | (simp; done) | (simp [*]; done), by repeat (first | exact Drawn0.refl _ | apply Drawn0.step)⟩
end Go.Proofs.Ytdjeekpgcjcffaa.P
end
section
namespace Go.Proofs.Ytdjeekpgcjcffaa.P
open Go.RowKit Go.Proofs.YtdjeekpgcjcffaaW.PrintWords Go.Proofs.YtdjeekpgcjcffaaW.PrintLast Go.Proofs.YtdjeekpgcjcffaaW.PrintMore
attribute [local go_sem] max2_int min2_int max_two min_two max_three min_three max_four min_four   -- for this text's walks alone
def busbarref01_Words.l0 : Nat → List Int → List Int → Int → Option (Bool)
  | 0, _, _, _ => none
  | k + 1, x0, x1, x5 => if x5 < (x0.length : Int) then (if 0 ≤ x5 then (if x5 < (x1.length : Int) then (if (rd x0 x5) = (rd x1 x5) then (busbarref01_Words.l0 k x0 x1 (wrap64 (x5 + 1))) else (some false)) else (none)) else (none)) else (some true)
def busbarref01_Words.f (k : Nat) (l0 : List Int) (l1 : List Int) : Option (Bool) := if (l0.length : Int) = (l1.length : Int) then (busbarref01_Words.l0 k l0 l1 0) else (some false)
theorem busbarref01_Words.mono_l : ∀ k, (∀ y0 y1 y2, LeO (busbarref01_Words.l0 k y0 y1 y2) (busbarref01_Words.l0 (k + 1) y0 y1 y2))
  | 0 => fun _ _ _ r h => by simp [busbarref01_Words.l0] at h
  | k + 1 => by
    have ih0 := busbarref01_Words.mono_l k
    · intro y0 y1 y2
      unfold busbarref01_Words.l0
      repeat' first
      | (with_reducible exact ih0 _ _ _)
      | (with_reducible exact LeO.refl _)
      | (with_reducible exact LeO.none _)
      | (with_reducible refine LeO.ite ?_ ?_)
      | (with_reducible refine LeO.bind ?_ (fun _ => ?_))
      | exact ih0 _ _ _
      | exact LeO.none _
      | refine LeO.ite ?_ ?_
      | refine LeO.bind ?_ (fun _ => ?_)
theorem busbarref01_Words.mono : ∀ a0 a1 k, LeO (busbarref01_Words.f k a0 a1) (busbarref01_Words.f (k + 1) a0 a1) := by
  intro a0 a1 k
  have ih0 := busbarref01_Words.mono_l k
  unfold busbarref01_Words.f
  repeat' first
      | (with_reducible exact ih0 _ _ _)
      | (with_reducible exact LeO.refl _)
      | (with_reducible exact LeO.none _)
      | (with_reducible refine LeO.ite ?_ ?_)
      | (with_reducible refine LeO.bind ?_ (fun _ => ?_))
      | exact ih0 _ _ _
      | exact LeO.none _
      | refine LeO.ite ?_ ?_
      | refine LeO.bind ?_ (fun _ => ?_)
theorem busbarref01_Words.calls (k : Nat) (A0 : Option Addr) (c0 : Nat) (l0 : List Int) (A1 : Option Addr) (c1 : Nat) (l1 : List Int) (r : Bool) (w : World) (hr0 : Kd.C (Kd.int .u16) w A0 l0.length l0) (hc0 : l0.length ≤ c0) (hr1 : Kd.C (Kd.int .u16) w A1 l1.length l1) (hc1 : l1.length ≤ c1) (h : busbarref01_Words.f k l0 l1 = some r) :
    Calls Try.prog 29 #[.slice A0 l0.length c0, .slice A1 l1.length c1] w fun e w' => e = .returned (.bool r) ∧ Drawn0 w w' := by
  have HR0 := Aside0.mk hr0
  have HC0 := Aside0.mk hc0
  clear hr0 hc0
  have HR1 := Aside0.mk hr1
  have HC1 := Aside0.mk hc1
  clear hr1 hc1
  have H : (if (l0.length : Int) = (l1.length : Int) then (busbarref01_Words.l0 k l0 l1 0) else (some false)) = some r := h
  clear h
  by_cases c3 : (l0.length : Int) = (l1.length : Int)
  · rw [if_pos c3] at H
    have c3b0 : ((l0.length : Int) == (l1.length : Int)) = true := beq_iff_eq.mpr c3
    have c3b1 : ((l0.length : Int) != (l1.length : Int)) = false := bne_eq_false_iff_eq.mpr c3
    have c3b2 : (l0.length == l1.length) = true := by first | simpa using c3 | (simp at c3 ⊢; omega)
    clear c3
    have H' := Aside0.mk H
    clear H
    go_enter Try.func29, Try.ntmps29
    go_wp2
    repeat (go_quiet (fail); try go_wp2)
    go_loopg [5] k (fun kq v5 w' => ∃ (x5_1 : Int), v5 = .int .i64 x5_1 ∧ Aside0 (busbarref01_Words.l0 kq l0 l1 x5_1 = some r) ∧ Aside0 (kq ≤ k) ∧ Drawn0 w w')
    case atStart => exact ⟨(0), (by first | rfl | (simp; done) | (simp [*]; done)), H', ⟨Nat.le_refl _⟩, by repeat (first | exact Drawn0.refl _ | apply Drawn0.step)⟩
    case round =>
      clear H'
      try clear c1
      try clear c2
      try clear p2
      try clear c3
      try clear c3b0
      try clear c3b1
      try clear c3b2
      obtain ⟨x5_1, rfl, HA, HK1, ⟨m1, rfl⟩⟩ := hrel
      cases gk with
      | zero => exact absurd HA.out (by simp [busbarref01_Words.l0])
      | succ k1 =>
        have H := HA.out
        clear HA
        simp only [busbarref01_Words.l0] at H
        by_cases c4 : x5_1 < (l0.length : Int)
        · rw [if_pos c4] at H
          have c4b0 : decide (x5_1 < (l0.length : Int)) = true := decide_eq_true c4
          clear c4
          by_cases c5 : 0 ≤ x5_1
          · rw [if_pos c5] at H
            have c5b0 : decide (0 ≤ x5_1) = true := decide_eq_true c5
            clear c5
            by_cases c6 : x5_1 < (l1.length : Int)
            · rw [if_pos c6] at H
              have c6b0 : decide (x5_1 < (l1.length : Int)) = true := decide_eq_true c6
              clear c6
              by_cases c7 : (rd l0 x5_1) = (rd l1 x5_1)
              · rw [if_pos c7] at H
                have c7b0 : ((rd l0 x5_1) == (rd l1 x5_1)) = true := beq_iff_eq.mpr c7
                have c7b1 : ((rd l0 x5_1) != (rd l1 x5_1)) = false := bne_eq_false_iff_eq.mpr c7
                clear c7
                have H' := Aside0.mk H
                clear H
                have p201 : 0 ≤ (x5_1 : Int) := of_decide_eq_true (by first | (with_reducible assumption) | assumption)
                have q201 : x5_1 < (l0.length : Int) := of_decide_eq_true (by first | (with_reducible assumption) | assumption)
                obtain ⟨ad201, e201, hx201_0⟩ := Kd.at_int HR0.out x5_1 p201 q201
                cases e201
                replace p201 := eq_true p201
                replace q201 := eq_true q201
                have p202 : 0 ≤ (x5_1 : Int) := of_decide_eq_true (by first | (with_reducible assumption) | assumption)
                have q202 : x5_1 < (l1.length : Int) := of_decide_eq_true (by first | (with_reducible assumption) | assumption)
                obtain ⟨ad202, e202, hx202_0⟩ := Kd.at_int HR1.out x5_1 p202 q202
                cases e202
                replace p202 := eq_true p202
                replace q202 := eq_true q202
                go_wp2
                repeat (go_quiet (fail); try go_wp2)
                go_roundg k1
                case measure => have := HK1.out; omega
                case rel => exact ⟨(wrap64 (x5_1 + 1)), (by first | rfl | (simp; done) | (simp [*]; done)), H', ⟨by have := HK1.out; omega⟩, by repeat (first | exact Drawn0.refl _ | apply Drawn0.step)⟩
              · rw [if_neg c7] at H
                have c7b0 : ((rd l0 x5_1) == (rd l1 x5_1)) = false := beq_eq_false_iff_ne.mpr c7
                have c7b1 : ((rd l0 x5_1) != (rd l1 x5_1)) = true := bne_iff_ne.mpr c7
                obtain rfl := Option.some.inj H
                have p201 : 0 ≤ (x5_1 : Int) := of_decide_eq_true (by first | (with_reducible assumption) | assumption)
                have q201 : x5_1 < (l0.length : Int) := of_decide_eq_true (by first | (with_reducible assumption) | assumption)
                obtain ⟨ad201, e201, hx201_0⟩ := Kd.at_int HR0.out x5_1 p201 q201
                cases e201
                replace p201 := eq_true p201
                replace q201 := eq_true q201
                have p202 : 0 ≤ (x5_1 : Int) := of_decide_eq_true (by first | (with_reducible assumption) | assumption)
                have q202 : x5_1 < (l1.length : Int) := of_decide_eq_true (by first | (with_reducible assumption) | assumption)
                obtain ⟨ad202, e202, hx202_0⟩ := Kd.at_int HR1.out x5_1 p202 q202
                cases e202
                replace p202 := eq_true p202
                replace q202 := eq_true q202
                go_wp2
                repeat (go_quiet (fail); try go_wp2)
                go_ret
                exact ⟨by first | rfl | (simp; done) | (simp [*]; done), by repeat (first | exact Drawn0.refl _ | apply Drawn0.step)⟩
            · rw [if_neg c6] at H
              exact absurd H (by simp)
          · rw [if_neg c5] at H
            exact absurd H (by simp)
        · rw [if_neg c4] at H
          have c4b0 : decide (x5_1 < (l0.length : Int)) = false := decide_eq_false c4
          clear c4
          obtain rfl := Option.some.inj H
          go_wp2
          repeat (go_quiet (fail); try go_wp2)
          go_ret
          exact ⟨by first | rfl | (simp; done) | (simp [*]; done), by repeat (first | exact Drawn0.refl _ | apply Drawn0.step)⟩
  · rw [if_neg c3] at H
    have c3b0 : ((l0.length : Int) == (l1.length : Int)) = false := beq_eq_false_iff_ne.mpr c3
    have c3b1 : ((l0.length : Int) != (l1.length : Int)) = true := bne_iff_ne.mpr c3
    have c3b2 : (l0.length == l1.length) = false := by first | simpa using c3 | (simp at c3 ⊢; omega)
    obtain rfl := Option.some.inj H
    go_enter Try.func29, Try.ntmps29
    go_wp2
    repeat (go_quiet (fail); try go_wp2)
    go_ret
    exact ⟨by first | rfl | (simp; done) | (simp [*]; done), by repeat (first | exact Drawn0.refl _ | apply Drawn0.step)⟩
end Go.Proofs.Ytdjeekpgcjcffaa.P
end
section
namespace Go.Proofs.Ytdjeekpgcjcffaa.P
open Go.RowKit Go.Proofs.YtdjeekpgcjcffaaW.PrintWords Go.Proofs.YtdjeekpgcjcffaaW.PrintLast Go.Proofs.YtdjeekpgcjcffaaW.PrintMore
attribute [local go_sem] max2_int min2_int max_two min_two max_three min_three max_four min_four   -- for this text's walks alone
def busbarref01_Same.f (l0 : List Int) (l1 : List Int) : Option (Bool) := some ((strOfNums l0).toList == (strOfNums l1).toList)
theorem busbarref01_Same.calls (A0 : Option Addr) (c0 : Nat) (l0 : List Int) (A1 : Option Addr) (c1 : Nat) (l1 : List Int) (r : Bool) (w : World) (hr0 : Kd.C (Kd.int .u8) w A0 l0.length l0) (hc0 : l0.length ≤ c0) (hr1 : Kd.C (Kd.int .u8) w A1 l1.length l1) (hc1 : l1.length ≤ c1) (h : busbarref01_Same.f l0 l1 = some r) :
    Calls Try.prog 18 #[.slice A0 l0.length c0, .slice A1 l1.length c1] w fun e w' => e = .returned (.bool r) ∧ Drawn0 w w' := by
  have HR0 := Aside0.mk hr0
  have HC0 := Aside0.mk hc0
  clear hr0 hc0
  have HR1 := Aside0.mk hr1
  have HC1 := Aside0.mk hc1
  clear hr1 hc1
  have H : (some ((strOfNums l0).toList == (strOfNums l1).toList)) = some r := h
  clear h
  obtain rfl := Option.some.inj H
  have hcv3 := Kd.C_string (P := Try.prog) (A := A0) (c := c0) Try.underlying22 Try.underlying5 Try.underlying9 HR0.out
  have hcv4 := Kd.C_string (P := Try.prog) (A := A1) (c := c1) Try.underlying22 Try.underlying5 Try.underlying9 HR1.out
  go_enter Try.func18, Try.ntmps18
  go_wp2
  go_ret
  exact ⟨by first | rfl | (simp; done) | (simp [*]; done), by repeat (first | exact Drawn0.refl _ | apply Drawn0.step)⟩
end Go.Proofs.Ytdjeekpgcjcffaa.P
end
section
namespace Go.Proofs.Ytdjeekpgcjcffaa.R01
open Go.RowKit Go.Proofs.Ytdjeekpgcjcffaa.P Go.Proofs.Ytdjeekpgcjcffaa.E Go.Proofs.YtdjeekpgcjcffaaW.PrintWords Go.Proofs.YtdjeekpgcjcffaaW.PrintLast Go.Proofs.YtdjeekpgcjcffaaW.PrintMore
theorem same_eq {l m : List Int} (hl : isBytes l) (hm : isBytes m) : busbarref01_Same.f l m = some (l == m) := by unfold busbarref01_Same.f; rw [str_beq hl hm]
theorem bools_loop (l m : List Bool) (hl : (l.length : Int) ≤ 9223372036854775807) (he : l.length = m.length) (d : Nat) : ∀ k i, i ≤ l.length → l.length - i = d → d < k → busbarref01_Bools.l0 k l m i = some (l.drop i == m.drop i) := by
  induction d with
  | zero =>
    intro k i h1 h2 hk
    obtain ⟨k, rfl⟩ : ∃ m, k = m + 1 := ⟨k - 1, by omega⟩
    have c : ¬ (i : Int) < (l.length : Int) := by omega
    simp only [busbarref01_Bools.l0]
    rw [if_neg c, List.drop_eq_nil_of_le (by omega), List.drop_eq_nil_of_le (by omega)]; rfl
  | succ d ih =>
    intro k i h1 h2 hk
    obtain ⟨k, rfl⟩ : ∃ m, k = m + 1 := ⟨k - 1, by omega⟩
    have c1 : (i : Int) < (l.length : Int) := by omega
    have c2 : (0 : Int) ≤ (i : Int) := by omega
    have c3 : (i : Int) < (m.length : Int) := by omega
    have d3 : (i : Int) + 1 = ((i + 1 : Nat) : Int) := by omega
    have e3 : ((i + 1 : Nat) : Int) < 9223372036854775808 := by omega
    have e4 : -9223372036854775808 ≤ ((i + 1 : Nat) : Int) := by omega
    have hn := ih k (i + 1) (by omega) (by omega) (by omega)
    rw [drop_cons (show i < l.length by omega) false, drop_cons (show i < m.length by omega) false]
    simp only [busbarref01_Bools.l0]
    rw [if_pos c1, if_pos c2, if_pos c3, d3, wrap64_id e4 e3, hn]
    have hr : ∀ x : List Bool, rdOf false x (i : Int) = x.getD i false := fun x => by simp [rdOf]
    rw [hr, hr, List.cons_beq_cons]
    generalize l.getD i false = x
    generalize m.getD i false = y
    cases x <;> cases y <;> simp
theorem bools_ev (l m : List Bool) (hl : l.length ≤ 9223372036854775807) : Ev (fun k => busbarref01_Bools.f k l m) (l == m) := by
  refine Ev.of (busbarref01_Bools.mono l m) (k := l.length + 1) ?_
  unfold busbarref01_Bools.f
  by_cases he : l.length = m.length
  · have h := bools_loop l m (by omega) he l.length (l.length + 1) 0 (by omega) (by omega) (by omega)
    rw [Int.natCast_zero] at h
    rw [if_pos (by rw [he]), h]; rfl
  · rw [if_neg (fun h => he (by omega))]
    congr 1
    symm
    rw [beq_eq_false_iff_ne]
    exact fun h => he (by rw [h])
theorem words_loop (l m : List Int) (hl : (l.length : Int) ≤ 9223372036854775807) (he : l.length = m.length) (d : Nat) : ∀ k i, i ≤ l.length → l.length - i = d → d < k → busbarref01_Words.l0 k l m i = some (l.drop i == m.drop i) := by
  induction d with
  | zero =>
    intro k i h1 h2 hk
    obtain ⟨k, rfl⟩ : ∃ m, k = m + 1 := ⟨k - 1, by omega⟩
    have c : ¬ (i : Int) < (l.length : Int) := by omega
    simp only [busbarref01_Words.l0]
    rw [if_neg c, List.drop_eq_nil_of_le (by omega), List.drop_eq_nil_of_le (by omega)]; rfl
  | succ d ih =>
    intro k i h1 h2 hk
    obtain ⟨k, rfl⟩ : ∃ m, k = m + 1 := ⟨k - 1, by omega⟩
    have c1 : (i : Int) < (l.length : Int) := by omega
    have c2 : (0 : Int) ≤ (i : Int) := by omega
    have c3 : (i : Int) < (m.length : Int) := by omega
    have d3 : (i : Int) + 1 = ((i + 1 : Nat) : Int) := by omega
    have e3 : ((i + 1 : Nat) : Int) < 9223372036854775808 := by omega
    have e4 : -9223372036854775808 ≤ ((i + 1 : Nat) : Int) := by omega
    have hn := ih k (i + 1) (by omega) (by omega) (by omega)
    rw [drop_cons (show i < l.length by omega) 0, drop_cons (show i < m.length by omega) 0]
    simp only [busbarref01_Words.l0]
    rw [if_pos c1, if_pos c2, if_pos c3, d3, wrap64_id e4 e3, hn]
    have hr : ∀ x : List Int, rd x (i : Int) = x.getD i 0 := fun x => by simp [rd]
    rw [hr, hr, List.cons_beq_cons]
    generalize l.getD i 0 = x
    generalize m.getD i 0 = y
    by_cases h : x = y
    · subst h; simp
    · simp [h]
theorem words_ev (l m : List Int) (hl : l.length ≤ 9223372036854775807) : Ev (fun k => busbarref01_Words.f k l m) (l == m) := by
  refine Ev.of (busbarref01_Words.mono l m) (k := l.length + 1) ?_
  unfold busbarref01_Words.f
  by_cases he : l.length = m.length
  · have h := words_loop l m (by omega) he l.length (l.length + 1) 0 (by omega) (by omega) (by omega)
    rw [Int.natCast_zero] at h
    rw [if_pos (by rw [he]), h]; rfl
  · rw [if_neg (fun h => he (by omega))]
    congr 1
    symm
    rw [beq_eq_false_iff_ne]
    exact fun h => he (by rw [h])
theorem same_c {l m : List Int} (hl : isBytes l) (hm : isBytes m) {A B : Option Addr} {c d : Nat} {W : World} (rl : Kd.C (Kd.int .u8) W A l.length l) (zl : l.length ≤ c) (rm : Kd.C (Kd.int .u8) W B m.length m) (zm : m.length ≤ d) :
    Calls Try.prog 18 #[.slice A l.length c, .slice B m.length d] W fun e w' => e = .returned (.bool (l == m)) ∧ Below W.heap.size W w' := by
  refine (busbarref01_Same.calls A c l B d m _ W rl zl rm zm (same_eq hl hm)).mono ?_
  rintro e w' ⟨rfl, n, rfl⟩
  exact ⟨rfl, pw_below_drewN (Below.refl _ _) _⟩
theorem bools_c {l m : List Bool} (hl : l.length ≤ 9223372036854775807) {A B : Option Addr} {c d : Nat} {W : World} (rl : Kd.C Kd.bool W A l.length l) (zl : l.length ≤ c) (rm : Kd.C Kd.bool W B m.length m) (zm : m.length ≤ d) :
    Calls Try.prog 30 #[.slice A l.length c, .slice B m.length d] W fun e w' => e = .returned (.bool (l == m)) ∧ Below W.heap.size W w' := by
  obtain ⟨k, hk⟩ := (bools_ev l m hl).rounds
  refine (busbarref01_Bools.calls k A c l B d m _ W rl zl rm zm hk).mono ?_
  rintro e w' ⟨rfl, n, rfl⟩
  exact ⟨rfl, pw_below_drewN (Below.refl _ _) _⟩
theorem words_c {l m : List Int} (hl : l.length ≤ 9223372036854775807) {A B : Option Addr} {c d : Nat} {W : World} (rl : Kd.C (Kd.int .u16) W A l.length l) (zl : l.length ≤ c) (rm : Kd.C (Kd.int .u16) W B m.length m) (zm : m.length ≤ d) :
    Calls Try.prog 29 #[.slice A l.length c, .slice B m.length d] W fun e w' => e = .returned (.bool (l == m)) ∧ Below W.heap.size W w' := by
  obtain ⟨k, hk⟩ := (words_ev l m hl).rounds
  refine (busbarref01_Words.calls k A c l B d m _ W rl zl rm zm hk).mono ?_
  rintro e w' ⟨rfl, n, rfl⟩
  exact ⟨rfl, pw_below_drewN (Below.refl _ _) _⟩
end Go.Proofs.Ytdjeekpgcjcffaa.R01
end
section
namespace Go.Proofs.Ytdjeekpgcjcffaa.Same
open Go.RowKit Go.Proofs.Ytdjeekpgcjcffaa.P Go.Proofs.Ytdjeekpgcjcffaa.E Go.Proofs.YtdjeekpgcjcffaaW.PrintWords Go.Proofs.YtdjeekpgcjcffaaW.PrintLast Go.Proofs.YtdjeekpgcjcffaaW.PrintMore
theorem box_x0 (w : World) (cx cy : Array Value) (t : TypeId) (j : Nat) : ((w.alloc (.cells cx t)).alloc (.cells cy t)).cell? ⟨w.heap.size, j, none⟩ = cx[j]? := by
  rw [World.cell?_alloc_lt _ _ _ (by show w.heap.size < (w.alloc (.cells cx t)).heap.size; simp)]
  unfold World.cell?
  rw [heap_alloc_new w (.cells cx t)]; rfl
theorem box_y0 (w : World) (cx cy : Array Value) (t : TypeId) (j : Nat) : ((w.alloc (.cells cx t)).alloc (.cells cy t)).cell? ⟨w.heap.size + 1, j, none⟩ = cy[j]? := by
  have h := heap_alloc_new (w.alloc (.cells cx t)) (.cells cy t)
  rw [show (w.alloc (.cells cx t)).heap.size = w.heap.size + 1 by simp] at h
  unfold World.cell?
  rw [h]; rfl
structure SD (P : Program) (O : Array Oper) (Q : Exit → Act → World → Prop) (L : List Oper) (a : Act) (W : World) : Prop where
  out : wpList P O Q L a W
section
variable {P : Program} {L : List Oper} {O : Array Oper} {o oj : Oper} {a a' : Act} {Q : Exit → Act → World → Prop} {W : World} {v : Value} {N : Option Tmp}
theorem sd_nil (h : Q .normal a W) : SD P O Q [] a W := ⟨wpList_nil h⟩
theorem sd_val (k : Nat) (ho : L[k]? = some o) (hg : o.guard = none) (hN : o.dst = N) (hrun : (execOp a.eval o).run P W = .ok (.value v) W) (ha : a.put N v = a') (h : SD P O Q (L.drop (k + 1)) a' W) : SD P O Q (L.drop k) a W := by
  subst ha
  subst hN
  obtain ⟨hk, rfl⟩ := List.getElem?_eq_some_iff.1 ho
  refine ⟨?_⟩
  rw [List.drop_eq_getElem_cons hk]
  exact Kd.event_run hg hrun h.out
theorem sd_wanted (j s : Nat) {b b' : Bool} (hL : O.toList = L) (hg : o.guard = some (j, b)) (hj : L[j]? = some oj) (hd : oj.dst = some s) (hs : a.tmps[s]? = some (.bool b')) : Region.wanted o (yielded O a.tmps) = (b' == b) := by
  have hO : (O[j]?).bind (·.dst) = some s := by
    rw [← Array.getElem?_toList, hL, hj]; exact hd
  unfold Region.wanted
  rw [hg]
  show (yielded O a.tmps j == some b) = _
  unfold yielded
  rw [hO]
  simp only [Option.bind_some, hs]
  cases b' <;> cases b <;> rfl
theorem sd_skip (k j s : Nat) (b b' : Bool) (hL : O.toList = L) (ho : L[k]? = some o) (hj : L[j]? = some oj) (hg : o.guard = some (j, b)) (hN : o.dst = N) (hd : oj.dst = some s) (hs : a.tmps[s]? = some (.bool b')) (hb : (b' == b) = false) (ha : a.put N undef = a') (h : SD P O Q (L.drop (k + 1)) a' W) : SD P O Q (L.drop k) a W := by
  subst ha
  subst hN
  obtain ⟨hk, rfl⟩ := List.getElem?_eq_some_iff.1 ho
  refine ⟨?_⟩
  rw [List.drop_eq_getElem_cons hk]
  exact skip_guard ((sd_wanted j s hL hg hj hd hs).trans hb) h.out
theorem sd_gate (k j s : Nat) (b b' : Bool) (hL : O.toList = L) (ho : L[k]? = some o) (hj : L[j]? = some oj) (hg : o.guard = some (j, b)) (hN : o.dst = N) (hd : oj.dst = some s) (hs : a.tmps[s]? = some (.bool b')) (hb : (b' == b) = true) (hrun : (execOp a.eval { o with guard := none }).run P W = .ok (.value v) W) (ha : a.put N v = a') (h : SD P O Q (L.drop (k + 1)) a' W) : SD P O Q (L.drop k) a W := by
  subst ha
  subst hN
  obtain ⟨hk, rfl⟩ := List.getElem?_eq_some_iff.1 ho
  refine ⟨?_⟩
  rw [List.drop_eq_getElem_cons hk]
  exact gate_guard ((sd_wanted j s hL hg hj hd hs).trans hb) (Kd.event_run rfl hrun h.out)
end
noncomputable def rops1 : List Oper := (opsOf Try.f14 1).toList
theorem rops1_0 : rops1[0]? = some { dst := some 14, op := Op.fieldAddr 30 (Operand.tmp 2) 0, type := 0, pos := "ref.go:32", after := #[], guard := none } := by kernel_rfl
theorem rops1_1 : rops1[1]? = some { dst := some 15, op := Op.load 5 (Operand.tmp 14), type := 5, pos := "ref.go:32", after := #[{ on := 0, ground := Ground.data }], guard := none } := by kernel_rfl
theorem rops1_2 : rops1[2]? = some { dst := some 16, op := Op.fieldAddr 30 (Operand.tmp 3) 0, type := 0, pos := "ref.go:32", after := #[], guard := none } := by kernel_rfl
theorem rops1_3 : rops1[3]? = some { dst := some 17, op := Op.load 5 (Operand.tmp 16), type := 5, pos := "ref.go:32", after := #[{ on := 2, ground := Ground.data }], guard := none } := by kernel_rfl
theorem rops1_4 : rops1[4]? = some { dst := some 18, op := Op.binOp BinOp.neq 5 (Operand.tmp 15) (Operand.tmp 17) 5, type := 4, pos := "ref.go:32", after := #[{ on := 1, ground := Ground.data }, { on := 3, ground := Ground.data }], guard := none } := by kernel_rfl
theorem rops1_5 : rops1[5]? = some { dst := some 19, op := Op.move (Operand.tmp 18), type := 4, pos := "ref.go:32", after := #[{ on := 4, ground := Ground.data }], guard := none } := by kernel_rfl
theorem rops1_6 : rops1[6]? = some { dst := some 20, op := Op.fieldAddr 30 (Operand.tmp 2) 1, type := 0, pos := "ref.go:32", after := #[{ on := 5, ground := Ground.guard }], guard := some (5, false) } := by kernel_rfl
theorem rops1_7 : rops1[7]? = some { dst := some 21, op := Op.load 5 (Operand.tmp 20), type := 5, pos := "ref.go:32", after := #[{ on := 6, ground := Ground.data }, { on := 5, ground := Ground.guard }], guard := some (5, false) } := by kernel_rfl
theorem rops1_8 : rops1[8]? = some { dst := some 22, op := Op.fieldAddr 30 (Operand.tmp 3) 1, type := 0, pos := "ref.go:32", after := #[{ on := 5, ground := Ground.guard }], guard := some (5, false) } := by kernel_rfl
theorem rops1_9 : rops1[9]? = some { dst := some 23, op := Op.load 5 (Operand.tmp 22), type := 5, pos := "ref.go:32", after := #[{ on := 8, ground := Ground.data }, { on := 5, ground := Ground.guard }], guard := some (5, false) } := by kernel_rfl
theorem rops1_10 : rops1[10]? = some { dst := some 24, op := Op.binOp BinOp.neq 5 (Operand.tmp 21) (Operand.tmp 23) 5, type := 4, pos := "ref.go:32", after := #[{ on := 7, ground := Ground.data }, { on := 9, ground := Ground.data }, { on := 5, ground := Ground.guard }], guard := some (5, false) } := by kernel_rfl
theorem rops1_11 : rops1[11]? = some { dst := some 25, op := Op.pick (Operand.tmp 19) (Operand.const (Value.bool true)) (Operand.tmp 24), type := 4, pos := "ref.go:32", after := #[{ on := 5, ground := Ground.data }, { on := 10, ground := Ground.data }], guard := none } := by kernel_rfl
theorem rops1_12 : rops1[12]? = some { dst := some 26, op := Op.move (Operand.tmp 25), type := 4, pos := "ref.go:32", after := #[{ on := 11, ground := Ground.data }, { on := 5, ground := Ground.chain }], guard := none } := by kernel_rfl
theorem rops1_13 : rops1[13]? = some { dst := some 27, op := Op.fieldAddr 30 (Operand.tmp 2) 2, type := 0, pos := "ref.go:32", after := #[{ on := 12, ground := Ground.guard }], guard := some (12, false) } := by kernel_rfl
theorem rops1_14 : rops1[14]? = some { dst := some 28, op := Op.load 24 (Operand.tmp 27), type := 24, pos := "ref.go:32", after := #[{ on := 13, ground := Ground.data }, { on := 12, ground := Ground.guard }], guard := some (12, false) } := by kernel_rfl
theorem rops1_15 : rops1[15]? = some { dst := some 29, op := Op.fieldAddr 30 (Operand.tmp 3) 2, type := 0, pos := "ref.go:32", after := #[{ on := 12, ground := Ground.guard }], guard := some (12, false) } := by kernel_rfl
theorem rops1_16 : rops1[16]? = some { dst := some 30, op := Op.load 24 (Operand.tmp 29), type := 24, pos := "ref.go:32", after := #[{ on := 15, ground := Ground.data }, { on := 12, ground := Ground.guard }], guard := some (12, false) } := by kernel_rfl
theorem rops1_17 : rops1[17]? = some { dst := some 31, op := Op.binOp BinOp.neq 24 (Operand.tmp 28) (Operand.tmp 30) 24, type := 4, pos := "ref.go:32", after := #[{ on := 14, ground := Ground.data }, { on := 16, ground := Ground.data }, { on := 12, ground := Ground.guard }], guard := some (12, false) } := by kernel_rfl
theorem rops1_18 : rops1[18]? = some { dst := some 32, op := Op.pick (Operand.tmp 26) (Operand.const (Value.bool true)) (Operand.tmp 31), type := 4, pos := "ref.go:32", after := #[{ on := 12, ground := Ground.data }, { on := 17, ground := Ground.data }], guard := none } := by kernel_rfl
theorem rops1_19 : rops1[19]? = some { dst := some 33, op := Op.move (Operand.tmp 32), type := 4, pos := "ref.go:32", after := #[{ on := 18, ground := Ground.data }, { on := 12, ground := Ground.chain }], guard := none } := by kernel_rfl
theorem rops1_20 : rops1[20]? = some { dst := some 34, op := Op.fieldAddr 30 (Operand.tmp 2) 3, type := 0, pos := "ref.go:32", after := #[{ on := 19, ground := Ground.guard }], guard := some (19, false) } := by kernel_rfl
theorem rops1_21 : rops1[21]? = some { dst := some 35, op := Op.load 24 (Operand.tmp 34), type := 24, pos := "ref.go:32", after := #[{ on := 20, ground := Ground.data }, { on := 19, ground := Ground.guard }], guard := some (19, false) } := by kernel_rfl
theorem rops1_22 : rops1[22]? = some { dst := some 36, op := Op.fieldAddr 30 (Operand.tmp 3) 3, type := 0, pos := "ref.go:32", after := #[{ on := 19, ground := Ground.guard }], guard := some (19, false) } := by kernel_rfl
theorem rops1_23 : rops1[23]? = some { dst := some 37, op := Op.load 24 (Operand.tmp 36), type := 24, pos := "ref.go:32", after := #[{ on := 22, ground := Ground.data }, { on := 19, ground := Ground.guard }], guard := some (19, false) } := by kernel_rfl
theorem rops1_24 : rops1[24]? = some { dst := some 38, op := Op.binOp BinOp.neq 24 (Operand.tmp 35) (Operand.tmp 37) 24, type := 4, pos := "ref.go:32", after := #[{ on := 21, ground := Ground.data }, { on := 23, ground := Ground.data }, { on := 19, ground := Ground.guard }], guard := some (19, false) } := by kernel_rfl
theorem rops1_25 : rops1[25]? = some { dst := some 39, op := Op.pick (Operand.tmp 33) (Operand.const (Value.bool true)) (Operand.tmp 38), type := 4, pos := "ref.go:32", after := #[{ on := 19, ground := Ground.data }, { on := 24, ground := Ground.data }], guard := none } := by kernel_rfl
theorem rops1_26 : rops1[26]? = some { dst := some 40, op := Op.move (Operand.tmp 39), type := 4, pos := "ref.go:32", after := #[{ on := 25, ground := Ground.data }, { on := 19, ground := Ground.chain }], guard := none } := by kernel_rfl
theorem rops1_27 : rops1[27]? = some { dst := some 41, op := Op.fieldAddr 30 (Operand.tmp 2) 4, type := 0, pos := "ref.go:32", after := #[{ on := 26, ground := Ground.guard }], guard := some (26, false) } := by kernel_rfl
theorem rops1_28 : rops1[28]? = some { dst := some 42, op := Op.load 24 (Operand.tmp 41), type := 24, pos := "ref.go:32", after := #[{ on := 27, ground := Ground.data }, { on := 26, ground := Ground.guard }], guard := some (26, false) } := by kernel_rfl
theorem rops1_29 : rops1[29]? = some { dst := some 43, op := Op.fieldAddr 30 (Operand.tmp 3) 4, type := 0, pos := "ref.go:32", after := #[{ on := 26, ground := Ground.guard }], guard := some (26, false) } := by kernel_rfl
theorem rops1_30 : rops1[30]? = some { dst := some 44, op := Op.load 24 (Operand.tmp 43), type := 24, pos := "ref.go:32", after := #[{ on := 29, ground := Ground.data }, { on := 26, ground := Ground.guard }], guard := some (26, false) } := by kernel_rfl
theorem rops1_31 : rops1[31]? = some { dst := some 45, op := Op.binOp BinOp.neq 24 (Operand.tmp 42) (Operand.tmp 44) 24, type := 4, pos := "ref.go:32", after := #[{ on := 28, ground := Ground.data }, { on := 30, ground := Ground.data }, { on := 26, ground := Ground.guard }], guard := some (26, false) } := by kernel_rfl
theorem rops1_32 : rops1[32]? = some { dst := some 46, op := Op.pick (Operand.tmp 40) (Operand.const (Value.bool true)) (Operand.tmp 45), type := 4, pos := "ref.go:32", after := #[{ on := 26, ground := Ground.data }, { on := 31, ground := Ground.data }], guard := none } := by kernel_rfl
theorem rops1_33 : rops1[33]? = some { dst := some 47, op := Op.move (Operand.tmp 46), type := 4, pos := "ref.go:32", after := #[{ on := 32, ground := Ground.data }, { on := 26, ground := Ground.chain }], guard := none } := by kernel_rfl
theorem rops1_34 : rops1[34]? = some { dst := some 48, op := Op.fieldAddr 30 (Operand.tmp 2) 5, type := 0, pos := "ref.go:32", after := #[{ on := 33, ground := Ground.guard }], guard := some (33, false) } := by kernel_rfl
theorem rops1_35 : rops1[35]? = some { dst := some 49, op := Op.load 24 (Operand.tmp 48), type := 24, pos := "ref.go:32", after := #[{ on := 34, ground := Ground.data }, { on := 33, ground := Ground.guard }], guard := some (33, false) } := by kernel_rfl
theorem rops1_36 : rops1[36]? = some { dst := some 50, op := Op.fieldAddr 30 (Operand.tmp 3) 5, type := 0, pos := "ref.go:32", after := #[{ on := 33, ground := Ground.guard }], guard := some (33, false) } := by kernel_rfl
theorem rops1_37 : rops1[37]? = some { dst := some 51, op := Op.load 24 (Operand.tmp 50), type := 24, pos := "ref.go:32", after := #[{ on := 36, ground := Ground.data }, { on := 33, ground := Ground.guard }], guard := some (33, false) } := by kernel_rfl
theorem rops1_38 : rops1[38]? = some { dst := some 52, op := Op.binOp BinOp.neq 24 (Operand.tmp 49) (Operand.tmp 51) 24, type := 4, pos := "ref.go:32", after := #[{ on := 35, ground := Ground.data }, { on := 37, ground := Ground.data }, { on := 33, ground := Ground.guard }], guard := some (33, false) } := by kernel_rfl
theorem rops1_39 : rops1[39]? = some { dst := some 53, op := Op.pick (Operand.tmp 47) (Operand.const (Value.bool true)) (Operand.tmp 52), type := 4, pos := "ref.go:32", after := #[{ on := 33, ground := Ground.data }, { on := 38, ground := Ground.data }], guard := none } := by kernel_rfl
theorem rops1_40 : rops1[40]? = some { dst := some 54, op := Op.move (Operand.tmp 53), type := 4, pos := "ref.go:32", after := #[{ on := 39, ground := Ground.data }, { on := 33, ground := Ground.chain }], guard := none } := by kernel_rfl
theorem rops1_41 : rops1[41]? = some { dst := some 55, op := Op.fieldAddr 30 (Operand.tmp 2) 6, type := 0, pos := "ref.go:32", after := #[{ on := 40, ground := Ground.guard }], guard := some (40, false) } := by kernel_rfl
theorem rops1_42 : rops1[42]? = some { dst := some 56, op := Op.load 24 (Operand.tmp 55), type := 24, pos := "ref.go:32", after := #[{ on := 41, ground := Ground.data }, { on := 40, ground := Ground.guard }], guard := some (40, false) } := by kernel_rfl
theorem rops1_43 : rops1[43]? = some { dst := some 57, op := Op.fieldAddr 30 (Operand.tmp 3) 6, type := 0, pos := "ref.go:32", after := #[{ on := 40, ground := Ground.guard }], guard := some (40, false) } := by kernel_rfl
theorem rops1_44 : rops1[44]? = some { dst := some 58, op := Op.load 24 (Operand.tmp 57), type := 24, pos := "ref.go:32", after := #[{ on := 43, ground := Ground.data }, { on := 40, ground := Ground.guard }], guard := some (40, false) } := by kernel_rfl
theorem rops1_45 : rops1[45]? = some { dst := some 59, op := Op.binOp BinOp.neq 24 (Operand.tmp 56) (Operand.tmp 58) 24, type := 4, pos := "ref.go:32", after := #[{ on := 42, ground := Ground.data }, { on := 44, ground := Ground.data }, { on := 40, ground := Ground.guard }], guard := some (40, false) } := by kernel_rfl
theorem rops1_46 : rops1[46]? = some { dst := some 60, op := Op.pick (Operand.tmp 54) (Operand.const (Value.bool true)) (Operand.tmp 59), type := 4, pos := "ref.go:32", after := #[{ on := 40, ground := Ground.data }, { on := 45, ground := Ground.data }], guard := none } := by kernel_rfl
theorem rops1_47 : rops1[47]? = some { dst := some 61, op := Op.move (Operand.tmp 60), type := 4, pos := "ref.go:32", after := #[{ on := 46, ground := Ground.data }, { on := 40, ground := Ground.chain }], guard := none } := by kernel_rfl
theorem rops1_48 : rops1[48]? = some { dst := some 62, op := Op.fieldAddr 30 (Operand.tmp 2) 7, type := 0, pos := "ref.go:32", after := #[{ on := 47, ground := Ground.guard }], guard := some (47, false) } := by kernel_rfl
theorem rops1_49 : rops1[49]? = some { dst := some 63, op := Op.load 24 (Operand.tmp 62), type := 24, pos := "ref.go:32", after := #[{ on := 48, ground := Ground.data }, { on := 47, ground := Ground.guard }], guard := some (47, false) } := by kernel_rfl
theorem rops1_50 : rops1[50]? = some { dst := some 64, op := Op.fieldAddr 30 (Operand.tmp 3) 7, type := 0, pos := "ref.go:32", after := #[{ on := 47, ground := Ground.guard }], guard := some (47, false) } := by kernel_rfl
theorem rops1_51 : rops1[51]? = some { dst := some 65, op := Op.load 24 (Operand.tmp 64), type := 24, pos := "ref.go:32", after := #[{ on := 50, ground := Ground.data }, { on := 47, ground := Ground.guard }], guard := some (47, false) } := by kernel_rfl
theorem rops1_52 : rops1[52]? = some { dst := some 66, op := Op.binOp BinOp.neq 24 (Operand.tmp 63) (Operand.tmp 65) 24, type := 4, pos := "ref.go:32", after := #[{ on := 49, ground := Ground.data }, { on := 51, ground := Ground.data }, { on := 47, ground := Ground.guard }], guard := some (47, false) } := by kernel_rfl
theorem rops1_53 : rops1[53]? = some { dst := some 67, op := Op.pick (Operand.tmp 61) (Operand.const (Value.bool true)) (Operand.tmp 66), type := 4, pos := "ref.go:32", after := #[{ on := 47, ground := Ground.data }, { on := 52, ground := Ground.data }], guard := none } := by kernel_rfl
theorem rops1_54 : rops1[54]? = some { dst := some 68, op := Op.move (Operand.tmp 67), type := 4, pos := "ref.go:32", after := #[{ on := 53, ground := Ground.data }, { on := 47, ground := Ground.chain }], guard := none } := by kernel_rfl
theorem rops1_55 : rops1[55]? = some { dst := some 69, op := Op.fieldAddr 30 (Operand.tmp 2) 8, type := 0, pos := "ref.go:32", after := #[{ on := 54, ground := Ground.guard }], guard := some (54, false) } := by kernel_rfl
theorem rops1_56 : rops1[56]? = some { dst := some 70, op := Op.load 24 (Operand.tmp 69), type := 24, pos := "ref.go:32", after := #[{ on := 55, ground := Ground.data }, { on := 54, ground := Ground.guard }], guard := some (54, false) } := by kernel_rfl
theorem rops1_57 : rops1[57]? = some { dst := some 71, op := Op.fieldAddr 30 (Operand.tmp 3) 8, type := 0, pos := "ref.go:32", after := #[{ on := 54, ground := Ground.guard }], guard := some (54, false) } := by kernel_rfl
theorem rops1_58 : rops1[58]? = some { dst := some 72, op := Op.load 24 (Operand.tmp 71), type := 24, pos := "ref.go:32", after := #[{ on := 57, ground := Ground.data }, { on := 54, ground := Ground.guard }], guard := some (54, false) } := by kernel_rfl
theorem rops1_59 : rops1[59]? = some { dst := some 73, op := Op.binOp BinOp.neq 24 (Operand.tmp 70) (Operand.tmp 72) 24, type := 4, pos := "ref.go:32", after := #[{ on := 56, ground := Ground.data }, { on := 58, ground := Ground.data }, { on := 54, ground := Ground.guard }], guard := some (54, false) } := by kernel_rfl
theorem rops1_60 : rops1[60]? = some { dst := some 74, op := Op.pick (Operand.tmp 68) (Operand.const (Value.bool true)) (Operand.tmp 73), type := 4, pos := "ref.go:32", after := #[{ on := 54, ground := Ground.data }, { on := 59, ground := Ground.data }], guard := none } := by kernel_rfl
theorem rops1_61 : rops1[61]? = some { dst := some 75, op := Op.move (Operand.tmp 74), type := 4, pos := "ref.go:32", after := #[{ on := 60, ground := Ground.data }, { on := 54, ground := Ground.chain }], guard := none } := by kernel_rfl
theorem rops1_62 : rops1[62]? = some { dst := some 76, op := Op.fieldAddr 30 (Operand.tmp 2) 9, type := 0, pos := "ref.go:32", after := #[{ on := 61, ground := Ground.guard }], guard := some (61, false) } := by kernel_rfl
theorem rops1_63 : rops1[63]? = some { dst := some 77, op := Op.load 24 (Operand.tmp 76), type := 24, pos := "ref.go:32", after := #[{ on := 62, ground := Ground.data }, { on := 61, ground := Ground.guard }], guard := some (61, false) } := by kernel_rfl
theorem rops1_64 : rops1[64]? = some { dst := some 78, op := Op.fieldAddr 30 (Operand.tmp 3) 9, type := 0, pos := "ref.go:32", after := #[{ on := 61, ground := Ground.guard }], guard := some (61, false) } := by kernel_rfl
theorem rops1_65 : rops1[65]? = some { dst := some 79, op := Op.load 24 (Operand.tmp 78), type := 24, pos := "ref.go:32", after := #[{ on := 64, ground := Ground.data }, { on := 61, ground := Ground.guard }], guard := some (61, false) } := by kernel_rfl
theorem rops1_66 : rops1[66]? = some { dst := some 80, op := Op.binOp BinOp.neq 24 (Operand.tmp 77) (Operand.tmp 79) 24, type := 4, pos := "ref.go:32", after := #[{ on := 63, ground := Ground.data }, { on := 65, ground := Ground.data }, { on := 61, ground := Ground.guard }], guard := some (61, false) } := by kernel_rfl
theorem rops1_67 : rops1[67]? = some { dst := some 81, op := Op.pick (Operand.tmp 75) (Operand.const (Value.bool true)) (Operand.tmp 80), type := 4, pos := "ref.go:32", after := #[{ on := 61, ground := Ground.data }, { on := 66, ground := Ground.data }], guard := none } := by kernel_rfl
theorem rops1_68 : rops1[68]? = some { dst := some 82, op := Op.move (Operand.tmp 81), type := 4, pos := "ref.go:32", after := #[{ on := 67, ground := Ground.data }, { on := 61, ground := Ground.chain }], guard := none } := by kernel_rfl
theorem rops1_69 : rops1[69]? = some { dst := some 83, op := Op.fieldAddr 30 (Operand.tmp 2) 10, type := 0, pos := "ref.go:32", after := #[{ on := 68, ground := Ground.guard }], guard := some (68, false) } := by kernel_rfl
theorem rops1_70 : rops1[70]? = some { dst := some 84, op := Op.load 24 (Operand.tmp 83), type := 24, pos := "ref.go:32", after := #[{ on := 69, ground := Ground.data }, { on := 68, ground := Ground.guard }], guard := some (68, false) } := by kernel_rfl
theorem rops1_71 : rops1[71]? = some { dst := some 85, op := Op.fieldAddr 30 (Operand.tmp 3) 10, type := 0, pos := "ref.go:32", after := #[{ on := 68, ground := Ground.guard }], guard := some (68, false) } := by kernel_rfl
theorem rops1_72 : rops1[72]? = some { dst := some 86, op := Op.load 24 (Operand.tmp 85), type := 24, pos := "ref.go:32", after := #[{ on := 71, ground := Ground.data }, { on := 68, ground := Ground.guard }], guard := some (68, false) } := by kernel_rfl
theorem rops1_73 : rops1[73]? = some { dst := some 87, op := Op.binOp BinOp.neq 24 (Operand.tmp 84) (Operand.tmp 86) 24, type := 4, pos := "ref.go:32", after := #[{ on := 70, ground := Ground.data }, { on := 72, ground := Ground.data }, { on := 68, ground := Ground.guard }], guard := some (68, false) } := by kernel_rfl
theorem rops1_74 : rops1[74]? = some { dst := some 88, op := Op.pick (Operand.tmp 82) (Operand.const (Value.bool true)) (Operand.tmp 87), type := 4, pos := "ref.go:32", after := #[{ on := 68, ground := Ground.data }, { on := 73, ground := Ground.data }], guard := none } := by kernel_rfl
theorem rops1_75 : rops1[75]? = some { dst := some 89, op := Op.move (Operand.tmp 88), type := 4, pos := "ref.go:32", after := #[{ on := 74, ground := Ground.data }, { on := 68, ground := Ground.chain }], guard := none } := by kernel_rfl
theorem rops1_76 : rops1[76]? = some { dst := some 90, op := Op.fieldAddr 30 (Operand.tmp 2) 11, type := 0, pos := "ref.go:32", after := #[{ on := 75, ground := Ground.guard }], guard := some (75, false) } := by kernel_rfl
theorem rops1_77 : rops1[77]? = some { dst := some 91, op := Op.load 24 (Operand.tmp 90), type := 24, pos := "ref.go:32", after := #[{ on := 76, ground := Ground.data }, { on := 75, ground := Ground.guard }], guard := some (75, false) } := by kernel_rfl
theorem rops1_78 : rops1[78]? = some { dst := some 92, op := Op.fieldAddr 30 (Operand.tmp 3) 11, type := 0, pos := "ref.go:32", after := #[{ on := 75, ground := Ground.guard }], guard := some (75, false) } := by kernel_rfl
theorem rops1_79 : rops1[79]? = some { dst := some 93, op := Op.load 24 (Operand.tmp 92), type := 24, pos := "ref.go:32", after := #[{ on := 78, ground := Ground.data }, { on := 75, ground := Ground.guard }], guard := some (75, false) } := by kernel_rfl
theorem rops1_80 : rops1[80]? = some { dst := some 94, op := Op.binOp BinOp.neq 24 (Operand.tmp 91) (Operand.tmp 93) 24, type := 4, pos := "ref.go:32", after := #[{ on := 77, ground := Ground.data }, { on := 79, ground := Ground.data }, { on := 75, ground := Ground.guard }], guard := some (75, false) } := by kernel_rfl
theorem rops1_81 : rops1[81]? = some { dst := some 95, op := Op.pick (Operand.tmp 89) (Operand.const (Value.bool true)) (Operand.tmp 94), type := 4, pos := "ref.go:32", after := #[{ on := 75, ground := Ground.data }, { on := 80, ground := Ground.data }], guard := none } := by kernel_rfl
noncomputable def rops3 : List Oper := (opsOf Try.f14 3).toList
theorem rops3_0 : rops3[0]? = some { dst := some 96, op := Op.fieldAddr 30 (Operand.tmp 2) 16, type := 0, pos := "ref.go:35", after := #[], guard := none } := by kernel_rfl
theorem rops3_1 : rops3[1]? = some { dst := some 97, op := Op.load 5 (Operand.tmp 96), type := 5, pos := "ref.go:35", after := #[{ on := 0, ground := Ground.data }], guard := none } := by kernel_rfl
theorem rops3_2 : rops3[2]? = some { dst := some 98, op := Op.fieldAddr 30 (Operand.tmp 3) 16, type := 0, pos := "ref.go:35", after := #[], guard := none } := by kernel_rfl
theorem rops3_3 : rops3[3]? = some { dst := some 99, op := Op.load 5 (Operand.tmp 98), type := 5, pos := "ref.go:35", after := #[{ on := 2, ground := Ground.data }], guard := none } := by kernel_rfl
theorem rops3_4 : rops3[4]? = some { dst := some 100, op := Op.binOp BinOp.neq 5 (Operand.tmp 97) (Operand.tmp 99) 5, type := 4, pos := "ref.go:35", after := #[{ on := 1, ground := Ground.data }, { on := 3, ground := Ground.data }], guard := none } := by kernel_rfl
theorem rops3_5 : rops3[5]? = some { dst := some 101, op := Op.move (Operand.tmp 100), type := 4, pos := "ref.go:35", after := #[{ on := 4, ground := Ground.data }], guard := none } := by kernel_rfl
theorem rops3_6 : rops3[6]? = some { dst := some 102, op := Op.fieldAddr 30 (Operand.tmp 2) 17, type := 0, pos := "ref.go:35", after := #[{ on := 5, ground := Ground.guard }], guard := some (5, false) } := by kernel_rfl
theorem rops3_7 : rops3[7]? = some { dst := some 103, op := Op.load 5 (Operand.tmp 102), type := 5, pos := "ref.go:35", after := #[{ on := 6, ground := Ground.data }, { on := 5, ground := Ground.guard }], guard := some (5, false) } := by kernel_rfl
theorem rops3_8 : rops3[8]? = some { dst := some 104, op := Op.fieldAddr 30 (Operand.tmp 3) 17, type := 0, pos := "ref.go:35", after := #[{ on := 5, ground := Ground.guard }], guard := some (5, false) } := by kernel_rfl
theorem rops3_9 : rops3[9]? = some { dst := some 105, op := Op.load 5 (Operand.tmp 104), type := 5, pos := "ref.go:35", after := #[{ on := 8, ground := Ground.data }, { on := 5, ground := Ground.guard }], guard := some (5, false) } := by kernel_rfl
theorem rops3_10 : rops3[10]? = some { dst := some 106, op := Op.binOp BinOp.neq 5 (Operand.tmp 103) (Operand.tmp 105) 5, type := 4, pos := "ref.go:35", after := #[{ on := 7, ground := Ground.data }, { on := 9, ground := Ground.data }, { on := 5, ground := Ground.guard }], guard := some (5, false) } := by kernel_rfl
theorem rops3_11 : rops3[11]? = some { dst := some 107, op := Op.pick (Operand.tmp 101) (Operand.const (Value.bool true)) (Operand.tmp 106), type := 4, pos := "ref.go:35", after := #[{ on := 5, ground := Ground.data }, { on := 10, ground := Ground.data }], guard := none } := by kernel_rfl
theorem rops3_12 : rops3[12]? = some { dst := some 108, op := Op.move (Operand.tmp 107), type := 4, pos := "ref.go:35", after := #[{ on := 11, ground := Ground.data }, { on := 5, ground := Ground.chain }], guard := none } := by kernel_rfl
theorem rops3_13 : rops3[13]? = some { dst := some 109, op := Op.fieldAddr 30 (Operand.tmp 2) 18, type := 0, pos := "ref.go:35", after := #[{ on := 12, ground := Ground.guard }], guard := some (12, false) } := by kernel_rfl
theorem rops3_14 : rops3[14]? = some { dst := some 110, op := Op.load 5 (Operand.tmp 109), type := 5, pos := "ref.go:35", after := #[{ on := 13, ground := Ground.data }, { on := 12, ground := Ground.guard }], guard := some (12, false) } := by kernel_rfl
theorem rops3_15 : rops3[15]? = some { dst := some 111, op := Op.fieldAddr 30 (Operand.tmp 3) 18, type := 0, pos := "ref.go:35", after := #[{ on := 12, ground := Ground.guard }], guard := some (12, false) } := by kernel_rfl
theorem rops3_16 : rops3[16]? = some { dst := some 112, op := Op.load 5 (Operand.tmp 111), type := 5, pos := "ref.go:35", after := #[{ on := 15, ground := Ground.data }, { on := 12, ground := Ground.guard }], guard := some (12, false) } := by kernel_rfl
theorem rops3_17 : rops3[17]? = some { dst := some 113, op := Op.binOp BinOp.neq 5 (Operand.tmp 110) (Operand.tmp 112) 5, type := 4, pos := "ref.go:35", after := #[{ on := 14, ground := Ground.data }, { on := 16, ground := Ground.data }, { on := 12, ground := Ground.guard }], guard := some (12, false) } := by kernel_rfl
theorem rops3_18 : rops3[18]? = some { dst := some 114, op := Op.pick (Operand.tmp 108) (Operand.const (Value.bool true)) (Operand.tmp 113), type := 4, pos := "ref.go:35", after := #[{ on := 12, ground := Ground.data }, { on := 17, ground := Ground.data }], guard := none } := by kernel_rfl
theorem rops3_19 : rops3[19]? = some { dst := some 115, op := Op.move (Operand.tmp 114), type := 4, pos := "ref.go:35", after := #[{ on := 18, ground := Ground.data }, { on := 12, ground := Ground.chain }], guard := none } := by kernel_rfl
theorem rops3_20 : rops3[20]? = some { dst := some 116, op := Op.fieldAddr 30 (Operand.tmp 2) 19, type := 0, pos := "ref.go:35", after := #[{ on := 19, ground := Ground.guard }], guard := some (19, false) } := by kernel_rfl
theorem rops3_21 : rops3[21]? = some { dst := some 117, op := Op.load 5 (Operand.tmp 116), type := 5, pos := "ref.go:35", after := #[{ on := 20, ground := Ground.data }, { on := 19, ground := Ground.guard }], guard := some (19, false) } := by kernel_rfl
theorem rops3_22 : rops3[22]? = some { dst := some 118, op := Op.fieldAddr 30 (Operand.tmp 3) 19, type := 0, pos := "ref.go:35", after := #[{ on := 19, ground := Ground.guard }], guard := some (19, false) } := by kernel_rfl
theorem rops3_23 : rops3[23]? = some { dst := some 119, op := Op.load 5 (Operand.tmp 118), type := 5, pos := "ref.go:35", after := #[{ on := 22, ground := Ground.data }, { on := 19, ground := Ground.guard }], guard := some (19, false) } := by kernel_rfl
theorem rops3_24 : rops3[24]? = some { dst := some 120, op := Op.binOp BinOp.neq 5 (Operand.tmp 117) (Operand.tmp 119) 5, type := 4, pos := "ref.go:35", after := #[{ on := 21, ground := Ground.data }, { on := 23, ground := Ground.data }, { on := 19, ground := Ground.guard }], guard := some (19, false) } := by kernel_rfl
theorem rops3_25 : rops3[25]? = some { dst := some 121, op := Op.pick (Operand.tmp 115) (Operand.const (Value.bool true)) (Operand.tmp 120), type := 4, pos := "ref.go:35", after := #[{ on := 19, ground := Ground.data }, { on := 24, ground := Ground.data }], guard := none } := by kernel_rfl
theorem rops3_26 : rops3[26]? = some { dst := some 122, op := Op.move (Operand.tmp 121), type := 4, pos := "ref.go:35", after := #[{ on := 25, ground := Ground.data }, { on := 19, ground := Ground.chain }], guard := none } := by kernel_rfl
theorem rops3_27 : rops3[27]? = some { dst := some 123, op := Op.fieldAddr 30 (Operand.tmp 2) 20, type := 0, pos := "ref.go:35", after := #[{ on := 26, ground := Ground.guard }], guard := some (26, false) } := by kernel_rfl
theorem rops3_28 : rops3[28]? = some { dst := some 124, op := Op.load 5 (Operand.tmp 123), type := 5, pos := "ref.go:35", after := #[{ on := 27, ground := Ground.data }, { on := 26, ground := Ground.guard }], guard := some (26, false) } := by kernel_rfl
theorem rops3_29 : rops3[29]? = some { dst := some 125, op := Op.fieldAddr 30 (Operand.tmp 3) 20, type := 0, pos := "ref.go:35", after := #[{ on := 26, ground := Ground.guard }], guard := some (26, false) } := by kernel_rfl
theorem rops3_30 : rops3[30]? = some { dst := some 126, op := Op.load 5 (Operand.tmp 125), type := 5, pos := "ref.go:35", after := #[{ on := 29, ground := Ground.data }, { on := 26, ground := Ground.guard }], guard := some (26, false) } := by kernel_rfl
theorem rops3_31 : rops3[31]? = some { dst := some 127, op := Op.binOp BinOp.neq 5 (Operand.tmp 124) (Operand.tmp 126) 5, type := 4, pos := "ref.go:35", after := #[{ on := 28, ground := Ground.data }, { on := 30, ground := Ground.data }, { on := 26, ground := Ground.guard }], guard := some (26, false) } := by kernel_rfl
theorem rops3_32 : rops3[32]? = some { dst := some 128, op := Op.pick (Operand.tmp 122) (Operand.const (Value.bool true)) (Operand.tmp 127), type := 4, pos := "ref.go:35", after := #[{ on := 26, ground := Ground.data }, { on := 31, ground := Ground.data }], guard := none } := by kernel_rfl
section
variable {P : Program} {L : List Oper} {O : Array Oper} {Q : Exit → Act → World → Prop} {W : World} {a : Act} {o : Oper}
theorem put_size (a : Act) (d : Nat) (v : Value) : (a.put (some d) v).tmps.size = a.tmps.size := by simp [Act.put]
theorem put_same (a : Act) (d : Nat) (v : Value) (h : d < a.tmps.size) : (a.put (some d) v).tmps[d]? = some v := by
  simp only [Act.put]
  rw [Array.getElem?_setIfInBounds_self_of_lt h]
theorem put_other (a : Act) (d i : Nat) (v : Value) (h : i ≠ d) : (a.put (some d) v).tmps[i]? = a.tmps[i]? := by
  simp only [Act.put]
  rw [Array.getElem?_setIfInBounds_ne (Ne.symm h)]
theorem eval_of {i : Nat} {v : Value} (h : a.tmps[i]? = some v) : a.eval (.tmp i) = v := by
  simp only [Act.eval]
  rw [Array.getD_eq_getD_getElem?, h]; rfl
theorem st_val (n d : Nat) {v : Value} (ho : L[n]? = some o) (hg : o.guard = none) (hN : o.dst = some d) (hr : (execOp a.eval o).run P W = .ok (.value v) W) (hz : d < a.tmps.size)
    (h : ∀ a' : Act, a'.tmps.size = a.tmps.size → a'.defers = a.defers → (∀ i, i ≠ d → a'.tmps[i]? = a.tmps[i]?) → a'.tmps[d]? = some v → SD P O Q (L.drop (n + 1)) a' W) : SD P O Q (L.drop n) a W := by
  refine sd_val n ho hg hN hr rfl (h _ (put_size _ _ _) rfl (fun i hi => put_other _ _ _ _ hi) (put_same _ _ _ hz))
theorem st_gate (n g d s : Nat) {v : Value} {og : Oper} (hL : O.toList = L) (ho : L[n]? = some o) (hj : L[g]? = some og) (hg : o.guard = some (g, false)) (hN : o.dst = some d) (hd : og.dst = some s) (hs : a.tmps[s]? = some (.bool false)) (hr : (execOp a.eval { o with guard := none }).run P W = .ok (.value v) W) (hz : d < a.tmps.size)
    (h : ∀ a' : Act, a'.tmps.size = a.tmps.size → a'.defers = a.defers → (∀ i, i ≠ d → a'.tmps[i]? = a.tmps[i]?) → a'.tmps[d]? = some v → SD P O Q (L.drop (n + 1)) a' W) : SD P O Q (L.drop n) a W := by
  refine sd_gate n g s false false hL ho hj hg hN hd hs rfl hr rfl (h _ (put_size _ _ _) rfl (fun i hi => put_other _ _ _ _ hi) (put_same _ _ _ hz))
theorem st_skip (n g d s : Nat) {og : Oper} (hL : O.toList = L) (ho : L[n]? = some o) (hj : L[g]? = some og) (hg : o.guard = some (g, false)) (hN : o.dst = some d) (hd : og.dst = some s) (hs : a.tmps[s]? = some (.bool true)) (hz : d < a.tmps.size)
    (h : ∀ a' : Act, a'.tmps.size = a.tmps.size → a'.defers = a.defers → (∀ i, i ≠ d → a'.tmps[i]? = a.tmps[i]?) → a'.tmps[d]? = some undef → SD P O Q (L.drop (n + 1)) a' W) : SD P O Q (L.drop n) a W := by
  refine sd_skip n g s false true hL ho hj hg hN hd hs rfl rfl (h _ (put_size _ _ _) rfl (fun i hi => put_other _ _ _ _ hi) (put_same _ _ _ hz))
structure Seg (L : List Oper) (n g d : Nat) (o0 o1 o2 o3 o4 o5 og : Oper) : Prop where
  h0 : L[n]? = some o0
  h1 : L[n + 1]? = some o1
  h2 : L[n + 2]? = some o2
  h3 : L[n + 3]? = some o3
  h4 : L[n + 4]? = some o4
  h5 : L[n + 5]? = some o5
  hg : L[g]? = some og
  g0 : o0.guard = some (g, false)
  g1 : o1.guard = some (g, false)
  g2 : o2.guard = some (g, false)
  g3 : o3.guard = some (g, false)
  g4 : o4.guard = some (g, false)
  g5 : o5.guard = none
  d0 : o0.dst = some (d + 1)
  d1 : o1.dst = some (d + 2)
  d2 : o2.dst = some (d + 3)
  d3 : o3.dst = some (d + 4)
  d4 : o4.dst = some (d + 5)
  d5 : o5.dst = some (d + 6)
  dg : og.dst = some d
structure SegRuns (P : Program) (W : World) (d : Nat) (px py : Value) (r : Bool) (o0 o1 o2 o3 o4 o5 : Oper) : Prop where
  e : ∃ v0 v1 v2 v3 : Value, (∀ ev, ev (.tmp 2) = px → (execOp ev { o0 with guard := none }).run P W = .ok (.value v0) W) ∧ (∀ ev, ev (.tmp (d + 1)) = v0 → (execOp ev { o1 with guard := none }).run P W = .ok (.value v1) W) ∧
    (∀ ev, ev (.tmp 3) = py → (execOp ev { o2 with guard := none }).run P W = .ok (.value v2) W) ∧ (∀ ev, ev (.tmp (d + 3)) = v2 → (execOp ev { o3 with guard := none }).run P W = .ok (.value v3) W) ∧
    (∀ ev, ev (.tmp (d + 2)) = v1 → ev (.tmp (d + 4)) = v3 → (execOp ev { o4 with guard := none }).run P W = .ok (.value (.bool r)) W)
  p1 : ∀ ev, ev (.tmp d) = .bool true → ev (.const (.bool true)) = .bool true → (execOp ev o5).run P W = .ok (.value (.bool true)) W
  p2 : ∀ ev c, ev (.tmp d) = .bool false → ev (.tmp (d + 5)) = .bool c → (execOp ev o5).run P W = .ok (.value (.bool c)) W
theorem seg (n g d : Nat) {o0 o1 o2 o3 o4 o5 og : Oper} (v r : Bool) {px py : Value} (hL : O.toList = L) (H : Seg L n g d o0 o1 o2 o3 o4 o5 og) (R : SegRuns P W d px py r o0 o1 o2 o3 o4 o5)
    (hd : 3 < d) (hz : d + 6 < a.tmps.size) (hx : a.tmps[2]? = some px) (hy : a.tmps[3]? = some py) (hs : a.tmps[d]? = some (.bool v))
    (h : ∀ a' : Act, a'.tmps.size = a.tmps.size → a'.defers = a.defers → a'.tmps[2]? = some px → a'.tmps[3]? = some py → a'.tmps[d + 6]? = some (.bool (v || r)) → SD P O Q (L.drop (n + 6)) a' W) : SD P O Q (L.drop n) a W := by
  obtain ⟨v0, v1, v2, v3, e0, e1, e2, e3, e4⟩ := R.e
  have n1 : d ≠ d + 1 := by omega
  have n2 : d ≠ d + 2 := by omega
  have n3 : d ≠ d + 3 := by omega
  have n4 : d ≠ d + 4 := by omega
  have n5 : d ≠ d + 5 := by omega
  cases v with
  | true =>
    refine st_skip n g (d + 1) d hL H.h0 H.hg H.g0 H.d0 H.dg hs (by omega) fun a1 z1 f1 k1 v1 => ?_
    have s1 := (k1 d n1).trans hs
    refine st_skip (n + 1) g (d + 2) d hL H.h1 H.hg H.g1 H.d1 H.dg s1 (by omega) fun a2 z2 f2 k2 v2 => ?_
    have s2 := (k2 d n2).trans s1
    refine st_skip (n + 2) g (d + 3) d hL H.h2 H.hg H.g2 H.d2 H.dg s2 (by omega) fun a3 z3 f3 k3 v3 => ?_
    have s3 := (k3 d n3).trans s2
    refine st_skip (n + 3) g (d + 4) d hL H.h3 H.hg H.g3 H.d3 H.dg s3 (by omega) fun a4 z4 f4 k4 v4 => ?_
    have s4 := (k4 d n4).trans s3
    refine st_skip (n + 4) g (d + 5) d hL H.h4 H.hg H.g4 H.d4 H.dg s4 (by omega) fun a5 z5 f5 k5 v5 => ?_
    have s5 := (k5 d n5).trans s4
    refine st_val (n + 5) (d + 6) H.h5 H.g5 H.d5 (R.p1 _ (eval_of s5) rfl) (by omega) fun a6 z6 f6 k6 v6 => ?_
    refine h a6 (by omega) (by rw [f6, f5, f4, f3, f2, f1]) ?_ ?_ v6
    · rw [k6 2 (by omega), k5 2 (by omega), k4 2 (by omega), k3 2 (by omega), k2 2 (by omega), k1 2 (by omega)]; exact hx
    · rw [k6 3 (by omega), k5 3 (by omega), k4 3 (by omega), k3 3 (by omega), k2 3 (by omega), k1 3 (by omega)]; exact hy
  | false =>
    refine st_gate n g (d + 1) d hL H.h0 H.hg H.g0 H.d0 H.dg hs (e0 _ (eval_of hx)) (by omega) fun a1 z1 f1 k1 w1 => ?_
    have s1 := (k1 d n1).trans hs
    refine st_gate (n + 1) g (d + 2) d hL H.h1 H.hg H.g1 H.d1 H.dg s1 (e1 _ (eval_of w1)) (by omega) fun a2 z2 f2 k2 w2 => ?_
    have s2 := (k2 d n2).trans s1
    have y2 : a2.tmps[3]? = some py := by rw [k2 3 (by omega), k1 3 (by omega)]; exact hy
    refine st_gate (n + 2) g (d + 3) d hL H.h2 H.hg H.g2 H.d2 H.dg s2 (e2 _ (eval_of y2)) (by omega) fun a3 z3 f3 k3 w3 => ?_
    have s3 := (k3 d n3).trans s2
    refine st_gate (n + 3) g (d + 4) d hL H.h3 H.hg H.g3 H.d3 H.dg s3 (e3 _ (eval_of w3)) (by omega) fun a4 z4 f4 k4 w4 => ?_
    have s4 := (k4 d n4).trans s3
    have x4 : a4.tmps[d + 2]? = some v1 := by rw [k4 (d + 2) (by omega), k3 (d + 2) (by omega)]; exact w2
    refine st_gate (n + 4) g (d + 5) d hL H.h4 H.hg H.g4 H.d4 H.dg s4 (e4 _ (eval_of x4) (eval_of w4)) (by omega) fun a5 z5 f5 k5 w5 => ?_
    have s5 := (k5 d n5).trans s4
    refine st_val (n + 5) (d + 6) H.h5 H.g5 H.d5 (R.p2 _ r (eval_of s5) (eval_of w5)) (by omega) fun a6 z6 f6 k6 w6 => ?_
    refine h a6 (by omega) (by rw [f6, f5, f4, f3, f2, f1]) ?_ ?_ w6
    · rw [k6 2 (by omega), k5 2 (by omega), k4 2 (by omega), k3 2 (by omega), k2 2 (by omega), k1 2 (by omega)]; exact hx
    · rw [k6 3 (by omega), k5 3 (by omega), k4 3 (by omega), k3 3 (by omega), k2 3 (by omega), k1 3 (by omega)]; exact hy
theorem seg_move (n d : Nat) {om : Oper} {v : Value} {px py : Value} (hm : L[n]? = some om) (hg : om.guard = none) (hd : om.dst = some (d + 1)) (he : ∀ ev, ev (.tmp d) = v → (execOp ev om).run P W = .ok (.value v) W) (h3 : 3 < d) (hz : d + 1 < a.tmps.size)
    (hx : a.tmps[2]? = some px) (hy : a.tmps[3]? = some py) (hs : a.tmps[d]? = some v)
    (h : ∀ a' : Act, a'.tmps.size = a.tmps.size → a'.defers = a.defers → a'.tmps[2]? = some px → a'.tmps[3]? = some py → a'.tmps[d + 1]? = some v → SD P O Q (L.drop (n + 1)) a' W) : SD P O Q (L.drop n) a W := by
  refine st_val n (d + 1) hm hg hd (he _ (eval_of hs)) hz fun a1 z1 f1 k1 w1 => ?_
  exact h a1 z1 f1 ((k1 2 (by omega)).trans hx) ((k1 3 (by omega)).trans hy) w1
theorem seg0 (d : Nat) {o0 o1 o2 o3 o4 : Oper} {px py : Value} {r : Bool} (h0 : L[0]? = some o0) (h1 : L[1]? = some o1) (h2 : L[2]? = some o2) (h3 : L[3]? = some o3) (h4 : L[4]? = some o4)
    (g0 : o0.guard = none) (g1 : o1.guard = none) (g2 : o2.guard = none) (g3 : o3.guard = none) (g4 : o4.guard = none) (d0 : o0.dst = some (d + 1)) (d1 : o1.dst = some (d + 2)) (d2 : o2.dst = some (d + 3)) (d3 : o3.dst = some (d + 4)) (d4 : o4.dst = some (d + 5))
    (e : ∃ v0 v1 v2 v3 : Value, (∀ ev, ev (.tmp 2) = px → (execOp ev o0).run P W = .ok (.value v0) W) ∧ (∀ ev, ev (.tmp (d + 1)) = v0 → (execOp ev o1).run P W = .ok (.value v1) W) ∧
    (∀ ev, ev (.tmp 3) = py → (execOp ev o2).run P W = .ok (.value v2) W) ∧ (∀ ev, ev (.tmp (d + 3)) = v2 → (execOp ev o3).run P W = .ok (.value v3) W) ∧
    (∀ ev, ev (.tmp (d + 2)) = v1 → ev (.tmp (d + 4)) = v3 → (execOp ev o4).run P W = .ok (.value (.bool r)) W))
    (hd : 3 < d) (hz : d + 5 < a.tmps.size) (hx : a.tmps[2]? = some px) (hy : a.tmps[3]? = some py)
    (h : ∀ a' : Act, a'.tmps.size = a.tmps.size → a'.defers = a.defers → a'.tmps[2]? = some px → a'.tmps[3]? = some py → a'.tmps[d + 5]? = some (.bool r) → SD P O Q (L.drop 5) a' W) : SD P O Q (L.drop 0) a W := by
  obtain ⟨v0, v1, v2, v3, e0, e1, e2, e3, e4⟩ := e
  refine st_val 0 (d + 1) h0 g0 d0 (e0 _ (eval_of hx)) (by omega) fun a1 z1 f1 k1 w1 => ?_
  refine st_val 1 (d + 2) h1 g1 d1 (e1 _ (eval_of w1)) (by omega) fun a2 z2 f2 k2 w2 => ?_
  have y2 : a2.tmps[3]? = some py := by rw [k2 3 (by omega), k1 3 (by omega)]; exact hy
  refine st_val 2 (d + 3) h2 g2 d2 (e2 _ (eval_of y2)) (by omega) fun a3 z3 f3 k3 w3 => ?_
  refine st_val 3 (d + 4) h3 g3 d3 (e3 _ (eval_of w3)) (by omega) fun a4 z4 f4 k4 w4 => ?_
  have x4 : a4.tmps[d + 2]? = some v1 := by rw [k4 (d + 2) (by omega), k3 (d + 2) (by omega)]; exact w2
  refine st_val 4 (d + 5) h4 g4 d4 (e4 _ (eval_of x4) (eval_of w4)) (by omega) fun a5 z5 f5 k5 w5 => ?_
  refine h a5 (by omega) (by rw [f5, f4, f3, f2, f1]) ?_ ?_ w5
  · rw [k5 2 (by omega), k4 2 (by omega), k3 2 (by omega), k2 2 (by omega), k1 2 (by omega)]; exact hx
  · rw [k5 3 (by omega), k4 3 (by omega), k3 3 (by omega), k2 3 (by omega), k1 3 (by omega)]; exact hy
end
theorem reg1_any (x y : Msg) (w wc : World) (Q : Exit → Act → World → Prop) (a : Act) (px0 : wc.cell? ⟨w.heap.size, 0, none⟩ = some (.int .u8 x.code)) (py0 : wc.cell? ⟨w.heap.size + 1, 0, none⟩ = some (.int .u8 y.code)) (px1 : wc.cell? ⟨w.heap.size, 1, none⟩ = some (.int .u8 x.fail)) (py1 : wc.cell? ⟨w.heap.size + 1, 1, none⟩ = some (.int .u8 y.fail)) (px2 : wc.cell? ⟨w.heap.size, 2, none⟩ = some (.int .u16 x.addr)) (py2 : wc.cell? ⟨w.heap.size + 1, 2, none⟩ = some (.int .u16 y.addr)) (px3 : wc.cell? ⟨w.heap.size, 3, none⟩ = some (.int .u16 x.count)) (py3 : wc.cell? ⟨w.heap.size + 1, 3, none⟩ = some (.int .u16 y.count)) (px4 : wc.cell? ⟨w.heap.size, 4, none⟩ = some (.int .u16 x.value)) (py4 : wc.cell? ⟨w.heap.size + 1, 4, none⟩ = some (.int .u16 y.value)) (px5 : wc.cell? ⟨w.heap.size, 5, none⟩ = some (.int .u16 x.and_)) (py5 : wc.cell? ⟨w.heap.size + 1, 5, none⟩ = some (.int .u16 y.and_)) (px6 : wc.cell? ⟨w.heap.size, 6, none⟩ = some (.int .u16 x.or_)) (py6 : wc.cell? ⟨w.heap.size + 1, 6, none⟩ = some (.int .u16 y.or_)) (px7 : wc.cell? ⟨w.heap.size, 7, none⟩ = some (.int .u16 x.addr2)) (py7 : wc.cell? ⟨w.heap.size + 1, 7, none⟩ = some (.int .u16 y.addr2)) (px8 : wc.cell? ⟨w.heap.size, 8, none⟩ = some (.int .u16 x.sub)) (py8 : wc.cell? ⟨w.heap.size + 1, 8, none⟩ = some (.int .u16 y.sub)) (px9 : wc.cell? ⟨w.heap.size, 9, none⟩ = some (.int .u16 x.status)) (py9 : wc.cell? ⟨w.heap.size + 1, 9, none⟩ = some (.int .u16 y.status)) (px10 : wc.cell? ⟨w.heap.size, 10, none⟩ = some (.int .u16 x.events)) (py10 : wc.cell? ⟨w.heap.size + 1, 10, none⟩ = some (.int .u16 y.events)) (px11 : wc.cell? ⟨w.heap.size, 11, none⟩ = some (.int .u16 x.messages)) (py11 : wc.cell? ⟨w.heap.size + 1, 11, none⟩ = some (.int .u16 y.messages)) (hs : a.tmps.size = 254) (hx : a.tmps[2]? = some (.pointer (some ⟨w.heap.size, 0, none⟩))) (hy : a.tmps[3]? = some (.pointer (some ⟨w.heap.size + 1, 0, none⟩)))
    (h : ∀ a' : Act, a'.tmps.size = 254 → a'.defers = a.defers → a'.tmps[2]? = some (.pointer (some ⟨w.heap.size, 0, none⟩)) → a'.tmps[3]? = some (.pointer (some ⟨w.heap.size + 1, 0, none⟩)) → a'.tmps[95]? = some (.bool ((x.code != y.code) || (x.fail != y.fail) || (x.addr != y.addr) || (x.count != y.count) || (x.value != y.value) || (x.and_ != y.and_) || (x.or_ != y.or_) || (x.addr2 != y.addr2) || (x.sub != y.sub) || (x.status != y.status) || (x.events != y.events) || (x.messages != y.messages))) → Q .normal a' wc) : wpList Try.prog (opsOf Try.f14 1) Q (opsOf Try.f14 1).toList a wc := by
  have hu1 := Try.underlying30
  have hL : (opsOf Try.f14 1).toList = rops1 := rfl
  suffices hS : SD Try.prog (opsOf Try.f14 1) Q (rops1.drop 0) a wc from hS.out
  refine seg0 (r := (x.code != y.code)) 13 rops1_0 rops1_1 rops1_2 rops1_3 rops1_4 rfl rfl rfl rfl rfl rfl rfl rfl rfl rfl ?_ (by omega) (by omega) hx hy fun a1 z1 f1 x1 y1 w1 => ?_
  · exact ⟨.pointer (some (⟨w.heap.size, 0, none⟩ : Addr)), .int .u8 x.code, .pointer (some (⟨w.heap.size + 1, 0, none⟩ : Addr)), .int .u8 y.code, fun ev (h : ev (.tmp 2) = .pointer (some (⟨w.heap.size, 0, none⟩ : Addr))) => by go_simp, fun ev (h1 : ev (.tmp 14) = .pointer (some (⟨w.heap.size, 0, none⟩ : Addr))) => by go_simp, fun ev (h : ev (.tmp 3) = .pointer (some (⟨w.heap.size + 1, 0, none⟩ : Addr))) => by go_simp, fun ev (h3 : ev (.tmp 16) = .pointer (some (⟨w.heap.size + 1, 0, none⟩ : Addr))) => by go_simp, fun ev (h2 : ev (.tmp 15) = .int .u8 x.code) (h4 : ev (.tmp 17) = .int .u8 y.code) => by go_simp⟩
  refine seg_move 5 18 rops1_5 rfl rfl (fun ev (h : ev (.tmp 18) = _) => by go_simp) (by omega) (by omega) x1 y1 w1 fun a2 z2 f2 x2 y2 w2 => ?_
  refine seg 6 5 19 ((x.code != y.code)) (x.fail != y.fail) hL ⟨rops1_6, rops1_7, rops1_8, rops1_9, rops1_10, rops1_11, rops1_5, rfl, rfl, rfl, rfl, rfl, rfl, rfl, rfl, rfl, rfl, rfl, rfl, rfl⟩ ⟨?_, fun ev (h : ev (.tmp 19) = _) (hc : ev (.const (.bool true)) = _) => by go_simp, fun ev c (h : ev (.tmp 19) = _) (h2 : ev (.tmp 24) = _) => by go_simp⟩ (by omega) (by omega) x2 y2 w2 fun a3 z3 f3 x3 y3 w3 => ?_
  · exact ⟨.pointer (some (⟨w.heap.size, 1, none⟩ : Addr)), .int .u8 x.fail, .pointer (some (⟨w.heap.size + 1, 1, none⟩ : Addr)), .int .u8 y.fail, fun ev (h : ev (.tmp 2) = .pointer (some (⟨w.heap.size, 0, none⟩ : Addr))) => by go_simp, fun ev (h1 : ev (.tmp 20) = .pointer (some (⟨w.heap.size, 1, none⟩ : Addr))) => by go_simp, fun ev (h : ev (.tmp 3) = .pointer (some (⟨w.heap.size + 1, 0, none⟩ : Addr))) => by go_simp, fun ev (h3 : ev (.tmp 22) = .pointer (some (⟨w.heap.size + 1, 1, none⟩ : Addr))) => by go_simp, fun ev (h2 : ev (.tmp 21) = .int .u8 x.fail) (h4 : ev (.tmp 23) = .int .u8 y.fail) => by go_simp⟩
  refine seg_move 12 25 rops1_12 rfl rfl (fun ev (h : ev (.tmp 25) = _) => by go_simp) (by omega) (by omega) x3 y3 w3 fun a4 z4 f4 x4 y4 w4 => ?_
  refine seg 13 12 26 ((x.code != y.code) || (x.fail != y.fail)) (x.addr != y.addr) hL ⟨rops1_13, rops1_14, rops1_15, rops1_16, rops1_17, rops1_18, rops1_12, rfl, rfl, rfl, rfl, rfl, rfl, rfl, rfl, rfl, rfl, rfl, rfl, rfl⟩ ⟨?_, fun ev (h : ev (.tmp 26) = _) (hc : ev (.const (.bool true)) = _) => by go_simp, fun ev c (h : ev (.tmp 26) = _) (h2 : ev (.tmp 31) = _) => by go_simp⟩ (by omega) (by omega) x4 y4 w4 fun a5 z5 f5 x5 y5 w5 => ?_
  · exact ⟨.pointer (some (⟨w.heap.size, 2, none⟩ : Addr)), .int .u16 x.addr, .pointer (some (⟨w.heap.size + 1, 2, none⟩ : Addr)), .int .u16 y.addr, fun ev (h : ev (.tmp 2) = .pointer (some (⟨w.heap.size, 0, none⟩ : Addr))) => by go_simp, fun ev (h1 : ev (.tmp 27) = .pointer (some (⟨w.heap.size, 2, none⟩ : Addr))) => by go_simp, fun ev (h : ev (.tmp 3) = .pointer (some (⟨w.heap.size + 1, 0, none⟩ : Addr))) => by go_simp, fun ev (h3 : ev (.tmp 29) = .pointer (some (⟨w.heap.size + 1, 2, none⟩ : Addr))) => by go_simp, fun ev (h2 : ev (.tmp 28) = .int .u16 x.addr) (h4 : ev (.tmp 30) = .int .u16 y.addr) => by go_simp⟩
  refine seg_move 19 32 rops1_19 rfl rfl (fun ev (h : ev (.tmp 32) = _) => by go_simp) (by omega) (by omega) x5 y5 w5 fun a6 z6 f6 x6 y6 w6 => ?_
  refine seg 20 19 33 ((x.code != y.code) || (x.fail != y.fail) || (x.addr != y.addr)) (x.count != y.count) hL ⟨rops1_20, rops1_21, rops1_22, rops1_23, rops1_24, rops1_25, rops1_19, rfl, rfl, rfl, rfl, rfl, rfl, rfl, rfl, rfl, rfl, rfl, rfl, rfl⟩ ⟨?_, fun ev (h : ev (.tmp 33) = _) (hc : ev (.const (.bool true)) = _) => by go_simp, fun ev c (h : ev (.tmp 33) = _) (h2 : ev (.tmp 38) = _) => by go_simp⟩ (by omega) (by omega) x6 y6 w6 fun a7 z7 f7 x7 y7 w7 => ?_
  · exact ⟨.pointer (some (⟨w.heap.size, 3, none⟩ : Addr)), .int .u16 x.count, .pointer (some (⟨w.heap.size + 1, 3, none⟩ : Addr)), .int .u16 y.count, fun ev (h : ev (.tmp 2) = .pointer (some (⟨w.heap.size, 0, none⟩ : Addr))) => by go_simp, fun ev (h1 : ev (.tmp 34) = .pointer (some (⟨w.heap.size, 3, none⟩ : Addr))) => by go_simp, fun ev (h : ev (.tmp 3) = .pointer (some (⟨w.heap.size + 1, 0, none⟩ : Addr))) => by go_simp, fun ev (h3 : ev (.tmp 36) = .pointer (some (⟨w.heap.size + 1, 3, none⟩ : Addr))) => by go_simp, fun ev (h2 : ev (.tmp 35) = .int .u16 x.count) (h4 : ev (.tmp 37) = .int .u16 y.count) => by go_simp⟩
  refine seg_move 26 39 rops1_26 rfl rfl (fun ev (h : ev (.tmp 39) = _) => by go_simp) (by omega) (by omega) x7 y7 w7 fun a8 z8 f8 x8 y8 w8 => ?_
  refine seg 27 26 40 ((x.code != y.code) || (x.fail != y.fail) || (x.addr != y.addr) || (x.count != y.count)) (x.value != y.value) hL ⟨rops1_27, rops1_28, rops1_29, rops1_30, rops1_31, rops1_32, rops1_26, rfl, rfl, rfl, rfl, rfl, rfl, rfl, rfl, rfl, rfl, rfl, rfl, rfl⟩ ⟨?_, fun ev (h : ev (.tmp 40) = _) (hc : ev (.const (.bool true)) = _) => by go_simp, fun ev c (h : ev (.tmp 40) = _) (h2 : ev (.tmp 45) = _) => by go_simp⟩ (by omega) (by omega) x8 y8 w8 fun a9 z9 f9 x9 y9 w9 => ?_
  · exact ⟨.pointer (some (⟨w.heap.size, 4, none⟩ : Addr)), .int .u16 x.value, .pointer (some (⟨w.heap.size + 1, 4, none⟩ : Addr)), .int .u16 y.value, fun ev (h : ev (.tmp 2) = .pointer (some (⟨w.heap.size, 0, none⟩ : Addr))) => by go_simp, fun ev (h1 : ev (.tmp 41) = .pointer (some (⟨w.heap.size, 4, none⟩ : Addr))) => by go_simp, fun ev (h : ev (.tmp 3) = .pointer (some (⟨w.heap.size + 1, 0, none⟩ : Addr))) => by go_simp, fun ev (h3 : ev (.tmp 43) = .pointer (some (⟨w.heap.size + 1, 4, none⟩ : Addr))) => by go_simp, fun ev (h2 : ev (.tmp 42) = .int .u16 x.value) (h4 : ev (.tmp 44) = .int .u16 y.value) => by go_simp⟩
  refine seg_move 33 46 rops1_33 rfl rfl (fun ev (h : ev (.tmp 46) = _) => by go_simp) (by omega) (by omega) x9 y9 w9 fun a10 z10 f10 x10 y10 w10 => ?_
  refine seg 34 33 47 ((x.code != y.code) || (x.fail != y.fail) || (x.addr != y.addr) || (x.count != y.count) || (x.value != y.value)) (x.and_ != y.and_) hL ⟨rops1_34, rops1_35, rops1_36, rops1_37, rops1_38, rops1_39, rops1_33, rfl, rfl, rfl, rfl, rfl, rfl, rfl, rfl, rfl, rfl, rfl, rfl, rfl⟩ ⟨?_, fun ev (h : ev (.tmp 47) = _) (hc : ev (.const (.bool true)) = _) => by go_simp, fun ev c (h : ev (.tmp 47) = _) (h2 : ev (.tmp 52) = _) => by go_simp⟩ (by omega) (by omega) x10 y10 w10 fun a11 z11 f11 x11 y11 w11 => ?_
  · exact ⟨.pointer (some (⟨w.heap.size, 5, none⟩ : Addr)), .int .u16 x.and_, .pointer (some (⟨w.heap.size + 1, 5, none⟩ : Addr)), .int .u16 y.and_, fun ev (h : ev (.tmp 2) = .pointer (some (⟨w.heap.size, 0, none⟩ : Addr))) => by go_simp, fun ev (h1 : ev (.tmp 48) = .pointer (some (⟨w.heap.size, 5, none⟩ : Addr))) => by go_simp, fun ev (h : ev (.tmp 3) = .pointer (some (⟨w.heap.size + 1, 0, none⟩ : Addr))) => by go_simp, fun ev (h3 : ev (.tmp 50) = .pointer (some (⟨w.heap.size + 1, 5, none⟩ : Addr))) => by go_simp, fun ev (h2 : ev (.tmp 49) = .int .u16 x.and_) (h4 : ev (.tmp 51) = .int .u16 y.and_) => by go_simp⟩
  refine seg_move 40 53 rops1_40 rfl rfl (fun ev (h : ev (.tmp 53) = _) => by go_simp) (by omega) (by omega) x11 y11 w11 fun a12 z12 f12 x12 y12 w12 => ?_
  refine seg 41 40 54 ((x.code != y.code) || (x.fail != y.fail) || (x.addr != y.addr) || (x.count != y.count) || (x.value != y.value) || (x.and_ != y.and_)) (x.or_ != y.or_) hL ⟨rops1_41, rops1_42, rops1_43, rops1_44, rops1_45, rops1_46, rops1_40, rfl, rfl, rfl, rfl, rfl, rfl, rfl, rfl, rfl, rfl, rfl, rfl, rfl⟩ ⟨?_, fun ev (h : ev (.tmp 54) = _) (hc : ev (.const (.bool true)) = _) => by go_simp, fun ev c (h : ev (.tmp 54) = _) (h2 : ev (.tmp 59) = _) => by go_simp⟩ (by omega) (by omega) x12 y12 w12 fun a13 z13 f13 x13 y13 w13 => ?_
  · exact ⟨.pointer (some (⟨w.heap.size, 6, none⟩ : Addr)), .int .u16 x.or_, .pointer (some (⟨w.heap.size + 1, 6, none⟩ : Addr)), .int .u16 y.or_, fun ev (h : ev (.tmp 2) = .pointer (some (⟨w.heap.size, 0, none⟩ : Addr))) => by go_simp, fun ev (h1 : ev (.tmp 55) = .pointer (some (⟨w.heap.size, 6, none⟩ : Addr))) => by go_simp, fun ev (h : ev (.tmp 3) = .pointer (some (⟨w.heap.size + 1, 0, none⟩ : Addr))) => by go_simp, fun ev (h3 : ev (.tmp 57) = .pointer (some (⟨w.heap.size + 1, 6, none⟩ : Addr))) => by go_simp, fun ev (h2 : ev (.tmp 56) = .int .u16 x.or_) (h4 : ev (.tmp 58) = .int .u16 y.or_) => by go_simp⟩
  refine seg_move 47 60 rops1_47 rfl rfl (fun ev (h : ev (.tmp 60) = _) => by go_simp) (by omega) (by omega) x13 y13 w13 fun a14 z14 f14 x14 y14 w14 => ?_
  refine seg 48 47 61 ((x.code != y.code) || (x.fail != y.fail) || (x.addr != y.addr) || (x.count != y.count) || (x.value != y.value) || (x.and_ != y.and_) || (x.or_ != y.or_)) (x.addr2 != y.addr2) hL ⟨rops1_48, rops1_49, rops1_50, rops1_51, rops1_52, rops1_53, rops1_47, rfl, rfl, rfl, rfl, rfl, rfl, rfl, rfl, rfl, rfl, rfl, rfl, rfl⟩ ⟨?_, fun ev (h : ev (.tmp 61) = _) (hc : ev (.const (.bool true)) = _) => by go_simp, fun ev c (h : ev (.tmp 61) = _) (h2 : ev (.tmp 66) = _) => by go_simp⟩ (by omega) (by omega) x14 y14 w14 fun a15 z15 f15 x15 y15 w15 => ?_
  · exact ⟨.pointer (some (⟨w.heap.size, 7, none⟩ : Addr)), .int .u16 x.addr2, .pointer (some (⟨w.heap.size + 1, 7, none⟩ : Addr)), .int .u16 y.addr2, fun ev (h : ev (.tmp 2) = .pointer (some (⟨w.heap.size, 0, none⟩ : Addr))) => by go_simp, fun ev (h1 : ev (.tmp 62) = .pointer (some (⟨w.heap.size, 7, none⟩ : Addr))) => by go_simp, fun ev (h : ev (.tmp 3) = .pointer (some (⟨w.heap.size + 1, 0, none⟩ : Addr))) => by go_simp, fun ev (h3 : ev (.tmp 64) = .pointer (some (⟨w.heap.size + 1, 7, none⟩ : Addr))) => by go_simp, fun ev (h2 : ev (.tmp 63) = .int .u16 x.addr2) (h4 : ev (.tmp 65) = .int .u16 y.addr2) => by go_simp⟩
  refine seg_move 54 67 rops1_54 rfl rfl (fun ev (h : ev (.tmp 67) = _) => by go_simp) (by omega) (by omega) x15 y15 w15 fun a16 z16 f16 x16 y16 w16 => ?_
  refine seg 55 54 68 ((x.code != y.code) || (x.fail != y.fail) || (x.addr != y.addr) || (x.count != y.count) || (x.value != y.value) || (x.and_ != y.and_) || (x.or_ != y.or_) || (x.addr2 != y.addr2)) (x.sub != y.sub) hL ⟨rops1_55, rops1_56, rops1_57, rops1_58, rops1_59, rops1_60, rops1_54, rfl, rfl, rfl, rfl, rfl, rfl, rfl, rfl, rfl, rfl, rfl, rfl, rfl⟩ ⟨?_, fun ev (h : ev (.tmp 68) = _) (hc : ev (.const (.bool true)) = _) => by go_simp, fun ev c (h : ev (.tmp 68) = _) (h2 : ev (.tmp 73) = _) => by go_simp⟩ (by omega) (by omega) x16 y16 w16 fun a17 z17 f17 x17 y17 w17 => ?_
  · exact ⟨.pointer (some (⟨w.heap.size, 8, none⟩ : Addr)), .int .u16 x.sub, .pointer (some (⟨w.heap.size + 1, 8, none⟩ : Addr)), .int .u16 y.sub, fun ev (h : ev (.tmp 2) = .pointer (some (⟨w.heap.size, 0, none⟩ : Addr))) => by go_simp, fun ev (h1 : ev (.tmp 69) = .pointer (some (⟨w.heap.size, 8, none⟩ : Addr))) => by go_simp, fun ev (h : ev (.tmp 3) = .pointer (some (⟨w.heap.size + 1, 0, none⟩ : Addr))) => by go_simp, fun ev (h3 : ev (.tmp 71) = .pointer (some (⟨w.heap.size + 1, 8, none⟩ : Addr))) => by go_simp, fun ev (h2 : ev (.tmp 70) = .int .u16 x.sub) (h4 : ev (.tmp 72) = .int .u16 y.sub) => by go_simp⟩
  refine seg_move 61 74 rops1_61 rfl rfl (fun ev (h : ev (.tmp 74) = _) => by go_simp) (by omega) (by omega) x17 y17 w17 fun a18 z18 f18 x18 y18 w18 => ?_
  refine seg 62 61 75 ((x.code != y.code) || (x.fail != y.fail) || (x.addr != y.addr) || (x.count != y.count) || (x.value != y.value) || (x.and_ != y.and_) || (x.or_ != y.or_) || (x.addr2 != y.addr2) || (x.sub != y.sub)) (x.status != y.status) hL ⟨rops1_62, rops1_63, rops1_64, rops1_65, rops1_66, rops1_67, rops1_61, rfl, rfl, rfl, rfl, rfl, rfl, rfl, rfl, rfl, rfl, rfl, rfl, rfl⟩ ⟨?_, fun ev (h : ev (.tmp 75) = _) (hc : ev (.const (.bool true)) = _) => by go_simp, fun ev c (h : ev (.tmp 75) = _) (h2 : ev (.tmp 80) = _) => by go_simp⟩ (by omega) (by omega) x18 y18 w18 fun a19 z19 f19 x19 y19 w19 => ?_
  · exact ⟨.pointer (some (⟨w.heap.size, 9, none⟩ : Addr)), .int .u16 x.status, .pointer (some (⟨w.heap.size + 1, 9, none⟩ : Addr)), .int .u16 y.status, fun ev (h : ev (.tmp 2) = .pointer (some (⟨w.heap.size, 0, none⟩ : Addr))) => by go_simp, fun ev (h1 : ev (.tmp 76) = .pointer (some (⟨w.heap.size, 9, none⟩ : Addr))) => by go_simp, fun ev (h : ev (.tmp 3) = .pointer (some (⟨w.heap.size + 1, 0, none⟩ : Addr))) => by go_simp, fun ev (h3 : ev (.tmp 78) = .pointer (some (⟨w.heap.size + 1, 9, none⟩ : Addr))) => by go_simp, fun ev (h2 : ev (.tmp 77) = .int .u16 x.status) (h4 : ev (.tmp 79) = .int .u16 y.status) => by go_simp⟩
  refine seg_move 68 81 rops1_68 rfl rfl (fun ev (h : ev (.tmp 81) = _) => by go_simp) (by omega) (by omega) x19 y19 w19 fun a20 z20 f20 x20 y20 w20 => ?_
  refine seg 69 68 82 ((x.code != y.code) || (x.fail != y.fail) || (x.addr != y.addr) || (x.count != y.count) || (x.value != y.value) || (x.and_ != y.and_) || (x.or_ != y.or_) || (x.addr2 != y.addr2) || (x.sub != y.sub) || (x.status != y.status)) (x.events != y.events) hL ⟨rops1_69, rops1_70, rops1_71, rops1_72, rops1_73, rops1_74, rops1_68, rfl, rfl, rfl, rfl, rfl, rfl, rfl, rfl, rfl, rfl, rfl, rfl, rfl⟩ ⟨?_, fun ev (h : ev (.tmp 82) = _) (hc : ev (.const (.bool true)) = _) => by go_simp, fun ev c (h : ev (.tmp 82) = _) (h2 : ev (.tmp 87) = _) => by go_simp⟩ (by omega) (by omega) x20 y20 w20 fun a21 z21 f21 x21 y21 w21 => ?_
  · exact ⟨.pointer (some (⟨w.heap.size, 10, none⟩ : Addr)), .int .u16 x.events, .pointer (some (⟨w.heap.size + 1, 10, none⟩ : Addr)), .int .u16 y.events, fun ev (h : ev (.tmp 2) = .pointer (some (⟨w.heap.size, 0, none⟩ : Addr))) => by go_simp, fun ev (h1 : ev (.tmp 83) = .pointer (some (⟨w.heap.size, 10, none⟩ : Addr))) => by go_simp, fun ev (h : ev (.tmp 3) = .pointer (some (⟨w.heap.size + 1, 0, none⟩ : Addr))) => by go_simp, fun ev (h3 : ev (.tmp 85) = .pointer (some (⟨w.heap.size + 1, 10, none⟩ : Addr))) => by go_simp, fun ev (h2 : ev (.tmp 84) = .int .u16 x.events) (h4 : ev (.tmp 86) = .int .u16 y.events) => by go_simp⟩
  refine seg_move 75 88 rops1_75 rfl rfl (fun ev (h : ev (.tmp 88) = _) => by go_simp) (by omega) (by omega) x21 y21 w21 fun a22 z22 f22 x22 y22 w22 => ?_
  refine seg 76 75 89 ((x.code != y.code) || (x.fail != y.fail) || (x.addr != y.addr) || (x.count != y.count) || (x.value != y.value) || (x.and_ != y.and_) || (x.or_ != y.or_) || (x.addr2 != y.addr2) || (x.sub != y.sub) || (x.status != y.status) || (x.events != y.events)) (x.messages != y.messages) hL ⟨rops1_76, rops1_77, rops1_78, rops1_79, rops1_80, rops1_81, rops1_75, rfl, rfl, rfl, rfl, rfl, rfl, rfl, rfl, rfl, rfl, rfl, rfl, rfl⟩ ⟨?_, fun ev (h : ev (.tmp 89) = _) (hc : ev (.const (.bool true)) = _) => by go_simp, fun ev c (h : ev (.tmp 89) = _) (h2 : ev (.tmp 94) = _) => by go_simp⟩ (by omega) (by omega) x22 y22 w22 fun a23 z23 f23 x23 y23 w23 => ?_
  · exact ⟨.pointer (some (⟨w.heap.size, 11, none⟩ : Addr)), .int .u16 x.messages, .pointer (some (⟨w.heap.size + 1, 11, none⟩ : Addr)), .int .u16 y.messages, fun ev (h : ev (.tmp 2) = .pointer (some (⟨w.heap.size, 0, none⟩ : Addr))) => by go_simp, fun ev (h1 : ev (.tmp 90) = .pointer (some (⟨w.heap.size, 11, none⟩ : Addr))) => by go_simp, fun ev (h : ev (.tmp 3) = .pointer (some (⟨w.heap.size + 1, 0, none⟩ : Addr))) => by go_simp, fun ev (h3 : ev (.tmp 92) = .pointer (some (⟨w.heap.size + 1, 11, none⟩ : Addr))) => by go_simp, fun ev (h2 : ev (.tmp 91) = .int .u16 x.messages) (h4 : ev (.tmp 93) = .int .u16 y.messages) => by go_simp⟩
  exact sd_nil (h a23 (by omega) (by rw [f23, f22, f21, f20, f19, f18, f17, f16, f15, f14, f13, f12, f11, f10, f9, f8, f7, f6, f5, f4, f3, f2, f1]) x23 y23 w23)
theorem reg3_any (x y : Msg) (w wc : World) (Q : Exit → Act → World → Prop) (a : Act) (px16 : wc.cell? ⟨w.heap.size, 16, none⟩ = some (.int .u8 x.mei)) (py16 : wc.cell? ⟨w.heap.size + 1, 16, none⟩ = some (.int .u8 y.mei)) (px17 : wc.cell? ⟨w.heap.size, 17, none⟩ = some (.int .u8 x.kind)) (py17 : wc.cell? ⟨w.heap.size + 1, 17, none⟩ = some (.int .u8 y.kind)) (px18 : wc.cell? ⟨w.heap.size, 18, none⟩ = some (.int .u8 x.level)) (py18 : wc.cell? ⟨w.heap.size + 1, 18, none⟩ = some (.int .u8 y.level)) (px19 : wc.cell? ⟨w.heap.size, 19, none⟩ = some (.int .u8 x.more)) (py19 : wc.cell? ⟨w.heap.size + 1, 19, none⟩ = some (.int .u8 y.more)) (px20 : wc.cell? ⟨w.heap.size, 20, none⟩ = some (.int .u8 x.next)) (py20 : wc.cell? ⟨w.heap.size + 1, 20, none⟩ = some (.int .u8 y.next)) (hs : a.tmps.size = 254) (hx : a.tmps[2]? = some (.pointer (some ⟨w.heap.size, 0, none⟩))) (hy : a.tmps[3]? = some (.pointer (some ⟨w.heap.size + 1, 0, none⟩)))
    (h : ∀ a' : Act, a'.tmps.size = 254 → a'.defers = a.defers → a'.tmps[2]? = some (.pointer (some ⟨w.heap.size, 0, none⟩)) → a'.tmps[3]? = some (.pointer (some ⟨w.heap.size + 1, 0, none⟩)) → a'.tmps[128]? = some (.bool ((x.mei != y.mei) || (x.kind != y.kind) || (x.level != y.level) || (x.more != y.more) || (x.next != y.next))) → Q .normal a' wc) : wpList Try.prog (opsOf Try.f14 3) Q (opsOf Try.f14 3).toList a wc := by
  have hu1 := Try.underlying30
  have hL : (opsOf Try.f14 3).toList = rops3 := rfl
  suffices hS : SD Try.prog (opsOf Try.f14 3) Q (rops3.drop 0) a wc from hS.out
  refine seg0 (r := (x.mei != y.mei)) 95 rops3_0 rops3_1 rops3_2 rops3_3 rops3_4 rfl rfl rfl rfl rfl rfl rfl rfl rfl rfl ?_ (by omega) (by omega) hx hy fun a1 z1 f1 x1 y1 w1 => ?_
  · exact ⟨.pointer (some (⟨w.heap.size, 16, none⟩ : Addr)), .int .u8 x.mei, .pointer (some (⟨w.heap.size + 1, 16, none⟩ : Addr)), .int .u8 y.mei, fun ev (h : ev (.tmp 2) = .pointer (some (⟨w.heap.size, 0, none⟩ : Addr))) => by go_simp, fun ev (h1 : ev (.tmp 96) = .pointer (some (⟨w.heap.size, 16, none⟩ : Addr))) => by go_simp, fun ev (h : ev (.tmp 3) = .pointer (some (⟨w.heap.size + 1, 0, none⟩ : Addr))) => by go_simp, fun ev (h3 : ev (.tmp 98) = .pointer (some (⟨w.heap.size + 1, 16, none⟩ : Addr))) => by go_simp, fun ev (h2 : ev (.tmp 97) = .int .u8 x.mei) (h4 : ev (.tmp 99) = .int .u8 y.mei) => by go_simp⟩
  refine seg_move 5 100 rops3_5 rfl rfl (fun ev (h : ev (.tmp 100) = _) => by go_simp) (by omega) (by omega) x1 y1 w1 fun a2 z2 f2 x2 y2 w2 => ?_
  refine seg 6 5 101 ((x.mei != y.mei)) (x.kind != y.kind) hL ⟨rops3_6, rops3_7, rops3_8, rops3_9, rops3_10, rops3_11, rops3_5, rfl, rfl, rfl, rfl, rfl, rfl, rfl, rfl, rfl, rfl, rfl, rfl, rfl⟩ ⟨?_, fun ev (h : ev (.tmp 101) = _) (hc : ev (.const (.bool true)) = _) => by go_simp, fun ev c (h : ev (.tmp 101) = _) (h2 : ev (.tmp 106) = _) => by go_simp⟩ (by omega) (by omega) x2 y2 w2 fun a3 z3 f3 x3 y3 w3 => ?_
  · exact ⟨.pointer (some (⟨w.heap.size, 17, none⟩ : Addr)), .int .u8 x.kind, .pointer (some (⟨w.heap.size + 1, 17, none⟩ : Addr)), .int .u8 y.kind, fun ev (h : ev (.tmp 2) = .pointer (some (⟨w.heap.size, 0, none⟩ : Addr))) => by go_simp, fun ev (h1 : ev (.tmp 102) = .pointer (some (⟨w.heap.size, 17, none⟩ : Addr))) => by go_simp, fun ev (h : ev (.tmp 3) = .pointer (some (⟨w.heap.size + 1, 0, none⟩ : Addr))) => by go_simp, fun ev (h3 : ev (.tmp 104) = .pointer (some (⟨w.heap.size + 1, 17, none⟩ : Addr))) => by go_simp, fun ev (h2 : ev (.tmp 103) = .int .u8 x.kind) (h4 : ev (.tmp 105) = .int .u8 y.kind) => by go_simp⟩
  refine seg_move 12 107 rops3_12 rfl rfl (fun ev (h : ev (.tmp 107) = _) => by go_simp) (by omega) (by omega) x3 y3 w3 fun a4 z4 f4 x4 y4 w4 => ?_
  refine seg 13 12 108 ((x.mei != y.mei) || (x.kind != y.kind)) (x.level != y.level) hL ⟨rops3_13, rops3_14, rops3_15, rops3_16, rops3_17, rops3_18, rops3_12, rfl, rfl, rfl, rfl, rfl, rfl, rfl, rfl, rfl, rfl, rfl, rfl, rfl⟩ ⟨?_, fun ev (h : ev (.tmp 108) = _) (hc : ev (.const (.bool true)) = _) => by go_simp, fun ev c (h : ev (.tmp 108) = _) (h2 : ev (.tmp 113) = _) => by go_simp⟩ (by omega) (by omega) x4 y4 w4 fun a5 z5 f5 x5 y5 w5 => ?_
  · exact ⟨.pointer (some (⟨w.heap.size, 18, none⟩ : Addr)), .int .u8 x.level, .pointer (some (⟨w.heap.size + 1, 18, none⟩ : Addr)), .int .u8 y.level, fun ev (h : ev (.tmp 2) = .pointer (some (⟨w.heap.size, 0, none⟩ : Addr))) => by go_simp, fun ev (h1 : ev (.tmp 109) = .pointer (some (⟨w.heap.size, 18, none⟩ : Addr))) => by go_simp, fun ev (h : ev (.tmp 3) = .pointer (some (⟨w.heap.size + 1, 0, none⟩ : Addr))) => by go_simp, fun ev (h3 : ev (.tmp 111) = .pointer (some (⟨w.heap.size + 1, 18, none⟩ : Addr))) => by go_simp, fun ev (h2 : ev (.tmp 110) = .int .u8 x.level) (h4 : ev (.tmp 112) = .int .u8 y.level) => by go_simp⟩
  refine seg_move 19 114 rops3_19 rfl rfl (fun ev (h : ev (.tmp 114) = _) => by go_simp) (by omega) (by omega) x5 y5 w5 fun a6 z6 f6 x6 y6 w6 => ?_
  refine seg 20 19 115 ((x.mei != y.mei) || (x.kind != y.kind) || (x.level != y.level)) (x.more != y.more) hL ⟨rops3_20, rops3_21, rops3_22, rops3_23, rops3_24, rops3_25, rops3_19, rfl, rfl, rfl, rfl, rfl, rfl, rfl, rfl, rfl, rfl, rfl, rfl, rfl⟩ ⟨?_, fun ev (h : ev (.tmp 115) = _) (hc : ev (.const (.bool true)) = _) => by go_simp, fun ev c (h : ev (.tmp 115) = _) (h2 : ev (.tmp 120) = _) => by go_simp⟩ (by omega) (by omega) x6 y6 w6 fun a7 z7 f7 x7 y7 w7 => ?_
  · exact ⟨.pointer (some (⟨w.heap.size, 19, none⟩ : Addr)), .int .u8 x.more, .pointer (some (⟨w.heap.size + 1, 19, none⟩ : Addr)), .int .u8 y.more, fun ev (h : ev (.tmp 2) = .pointer (some (⟨w.heap.size, 0, none⟩ : Addr))) => by go_simp, fun ev (h1 : ev (.tmp 116) = .pointer (some (⟨w.heap.size, 19, none⟩ : Addr))) => by go_simp, fun ev (h : ev (.tmp 3) = .pointer (some (⟨w.heap.size + 1, 0, none⟩ : Addr))) => by go_simp, fun ev (h3 : ev (.tmp 118) = .pointer (some (⟨w.heap.size + 1, 19, none⟩ : Addr))) => by go_simp, fun ev (h2 : ev (.tmp 117) = .int .u8 x.more) (h4 : ev (.tmp 119) = .int .u8 y.more) => by go_simp⟩
  refine seg_move 26 121 rops3_26 rfl rfl (fun ev (h : ev (.tmp 121) = _) => by go_simp) (by omega) (by omega) x7 y7 w7 fun a8 z8 f8 x8 y8 w8 => ?_
  refine seg 27 26 122 ((x.mei != y.mei) || (x.kind != y.kind) || (x.level != y.level) || (x.more != y.more)) (x.next != y.next) hL ⟨rops3_27, rops3_28, rops3_29, rops3_30, rops3_31, rops3_32, rops3_26, rfl, rfl, rfl, rfl, rfl, rfl, rfl, rfl, rfl, rfl, rfl, rfl, rfl⟩ ⟨?_, fun ev (h : ev (.tmp 122) = _) (hc : ev (.const (.bool true)) = _) => by go_simp, fun ev c (h : ev (.tmp 122) = _) (h2 : ev (.tmp 127) = _) => by go_simp⟩ (by omega) (by omega) x8 y8 w8 fun a9 z9 f9 x9 y9 w9 => ?_
  · exact ⟨.pointer (some (⟨w.heap.size, 20, none⟩ : Addr)), .int .u8 x.next, .pointer (some (⟨w.heap.size + 1, 20, none⟩ : Addr)), .int .u8 y.next, fun ev (h : ev (.tmp 2) = .pointer (some (⟨w.heap.size, 0, none⟩ : Addr))) => by go_simp, fun ev (h1 : ev (.tmp 123) = .pointer (some (⟨w.heap.size, 20, none⟩ : Addr))) => by go_simp, fun ev (h : ev (.tmp 3) = .pointer (some (⟨w.heap.size + 1, 0, none⟩ : Addr))) => by go_simp, fun ev (h3 : ev (.tmp 125) = .pointer (some (⟨w.heap.size + 1, 20, none⟩ : Addr))) => by go_simp, fun ev (h2 : ev (.tmp 124) = .int .u8 x.next) (h4 : ev (.tmp 126) = .int .u8 y.next) => by go_simp⟩
  exact sd_nil (h a9 (by omega) (by rw [f9, f8, f7, f6, f5, f4, f3, f2, f1]) x9 y9 w9)
end Go.Proofs.Ytdjeekpgcjcffaa.Same
end
section
namespace Go.Proofs.Ytdjeekpgcjcffaa.Same
open Go.RowKit Go.Proofs.Ytdjeekpgcjcffaa.P Go.Proofs.Ytdjeekpgcjcffaa.E Go.Proofs.YtdjeekpgcjcffaaW.PrintWords Go.Proofs.YtdjeekpgcjcffaaW.PrintLast Go.Proofs.YtdjeekpgcjcffaaW.PrintMore
theorem ref_diff (x y : Msg) (Ax12 : Option Addr) (cx12 : Nat) (Ax13 : Option Addr) (cx13 : Nat) (Ax14 : Option Addr) (cx14 : Nat) (Ax15 : Option Addr) (cx15 : Nat) (Ax21 : Option Addr) (cx21 : Nat) (Ay12 : Option Addr) (cy12 : Nat) (Ay13 : Option Addr) (cy13 : Nat) (Ay14 : Option Addr) (cy14 : Nat) (Ay15 : Option Addr) (cy15 : Nat) (Ay21 : Option Addr) (cy21 : Nat) (w : World) (hp : plainB x y = false) :
    Calls Try.prog 14 #[.agg #[.int .u8 x.code, .int .u8 x.fail, .int .u16 x.addr, .int .u16 x.count, .int .u16 x.value, .int .u16 x.and_, .int .u16 x.or_, .int .u16 x.addr2, .int .u16 x.sub, .int .u16 x.status, .int .u16 x.events, .int .u16 x.messages, .slice Ax12 x.words.length cx12, .slice Ax13 x.bits.length cx13, .slice Ax14 x.data.length cx14, .slice Ax15 x.recs.length cx15, .int .u8 x.mei, .int .u8 x.kind, .int .u8 x.level, .int .u8 x.more, .int .u8 x.next, .slice Ax21 x.objects.length cx21], .agg #[.int .u8 y.code, .int .u8 y.fail, .int .u16 y.addr, .int .u16 y.count, .int .u16 y.value, .int .u16 y.and_, .int .u16 y.or_, .int .u16 y.addr2, .int .u16 y.sub, .int .u16 y.status, .int .u16 y.events, .int .u16 y.messages, .slice Ay12 y.words.length cy12, .slice Ay13 y.bits.length cy13, .slice Ay14 y.data.length cy14, .slice Ay15 y.recs.length cy15, .int .u8 y.mei, .int .u8 y.kind, .int .u8 y.level, .int .u8 y.more, .int .u8 y.next, .slice Ay21 y.objects.length cy21]] w fun e w' => e = .returned (.bool false) ∧ Below w.heap.size w w' := by
  have hu1 := Try.underlying30
  go_enter Try.func14, Try.ntmps14
  go_upto_region 1 with (fail)
  obtain ⟨wc, hwc⟩ : ∃ wc, wc = ((w.alloc (.cells (#[.int .u8 x.code, .int .u8 x.fail, .int .u16 x.addr, .int .u16 x.count, .int .u16 x.value, .int .u16 x.and_, .int .u16 x.or_, .int .u16 x.addr2, .int .u16 x.sub, .int .u16 x.status, .int .u16 x.events, .int .u16 x.messages, .slice Ax12 x.words.length cx12, .slice Ax13 x.bits.length cx13, .slice Ax14 x.data.length cx14, .slice Ax15 x.recs.length cx15, .int .u8 x.mei, .int .u8 x.kind, .int .u8 x.level, .int .u8 x.more, .int .u8 x.next, .slice Ax21 x.objects.length cx21] : Array Value) 30)).alloc (.cells (#[.int .u8 y.code, .int .u8 y.fail, .int .u16 y.addr, .int .u16 y.count, .int .u16 y.value, .int .u16 y.and_, .int .u16 y.or_, .int .u16 y.addr2, .int .u16 y.sub, .int .u16 y.status, .int .u16 y.events, .int .u16 y.messages, .slice Ay12 y.words.length cy12, .slice Ay13 y.bits.length cy13, .slice Ay14 y.data.length cy14, .slice Ay15 y.recs.length cy15, .int .u8 y.mei, .int .u8 y.kind, .int .u8 y.level, .int .u8 y.more, .int .u8 y.next, .slice Ay21 y.objects.length cy21] : Array Value) 30)) := ⟨_, rfl⟩
  rw [← hwc]
  have px0 : wc.cell? ⟨w.heap.size, 0, none⟩ = some (.int .u8 x.code) := by rw [hwc]; exact box_x0 _ _ _ _ 0
  have py0 : wc.cell? ⟨w.heap.size + 1, 0, none⟩ = some (.int .u8 y.code) := by rw [hwc]; exact box_y0 _ _ _ _ 0
  have px1 : wc.cell? ⟨w.heap.size, 1, none⟩ = some (.int .u8 x.fail) := by rw [hwc]; exact box_x0 _ _ _ _ 1
  have py1 : wc.cell? ⟨w.heap.size + 1, 1, none⟩ = some (.int .u8 y.fail) := by rw [hwc]; exact box_y0 _ _ _ _ 1
  have px2 : wc.cell? ⟨w.heap.size, 2, none⟩ = some (.int .u16 x.addr) := by rw [hwc]; exact box_x0 _ _ _ _ 2
  have py2 : wc.cell? ⟨w.heap.size + 1, 2, none⟩ = some (.int .u16 y.addr) := by rw [hwc]; exact box_y0 _ _ _ _ 2
  have px3 : wc.cell? ⟨w.heap.size, 3, none⟩ = some (.int .u16 x.count) := by rw [hwc]; exact box_x0 _ _ _ _ 3
  have py3 : wc.cell? ⟨w.heap.size + 1, 3, none⟩ = some (.int .u16 y.count) := by rw [hwc]; exact box_y0 _ _ _ _ 3
  have px4 : wc.cell? ⟨w.heap.size, 4, none⟩ = some (.int .u16 x.value) := by rw [hwc]; exact box_x0 _ _ _ _ 4
  have py4 : wc.cell? ⟨w.heap.size + 1, 4, none⟩ = some (.int .u16 y.value) := by rw [hwc]; exact box_y0 _ _ _ _ 4
  have px5 : wc.cell? ⟨w.heap.size, 5, none⟩ = some (.int .u16 x.and_) := by rw [hwc]; exact box_x0 _ _ _ _ 5
  have py5 : wc.cell? ⟨w.heap.size + 1, 5, none⟩ = some (.int .u16 y.and_) := by rw [hwc]; exact box_y0 _ _ _ _ 5
  have px6 : wc.cell? ⟨w.heap.size, 6, none⟩ = some (.int .u16 x.or_) := by rw [hwc]; exact box_x0 _ _ _ _ 6
  have py6 : wc.cell? ⟨w.heap.size + 1, 6, none⟩ = some (.int .u16 y.or_) := by rw [hwc]; exact box_y0 _ _ _ _ 6
  have px7 : wc.cell? ⟨w.heap.size, 7, none⟩ = some (.int .u16 x.addr2) := by rw [hwc]; exact box_x0 _ _ _ _ 7
  have py7 : wc.cell? ⟨w.heap.size + 1, 7, none⟩ = some (.int .u16 y.addr2) := by rw [hwc]; exact box_y0 _ _ _ _ 7
  have px8 : wc.cell? ⟨w.heap.size, 8, none⟩ = some (.int .u16 x.sub) := by rw [hwc]; exact box_x0 _ _ _ _ 8
  have py8 : wc.cell? ⟨w.heap.size + 1, 8, none⟩ = some (.int .u16 y.sub) := by rw [hwc]; exact box_y0 _ _ _ _ 8
  have px9 : wc.cell? ⟨w.heap.size, 9, none⟩ = some (.int .u16 x.status) := by rw [hwc]; exact box_x0 _ _ _ _ 9
  have py9 : wc.cell? ⟨w.heap.size + 1, 9, none⟩ = some (.int .u16 y.status) := by rw [hwc]; exact box_y0 _ _ _ _ 9
  have px10 : wc.cell? ⟨w.heap.size, 10, none⟩ = some (.int .u16 x.events) := by rw [hwc]; exact box_x0 _ _ _ _ 10
  have py10 : wc.cell? ⟨w.heap.size + 1, 10, none⟩ = some (.int .u16 y.events) := by rw [hwc]; exact box_y0 _ _ _ _ 10
  have px11 : wc.cell? ⟨w.heap.size, 11, none⟩ = some (.int .u16 x.messages) := by rw [hwc]; exact box_x0 _ _ _ _ 11
  have py11 : wc.cell? ⟨w.heap.size + 1, 11, none⟩ = some (.int .u16 y.messages) := by rw [hwc]; exact box_y0 _ _ _ _ 11
  have px16 : wc.cell? ⟨w.heap.size, 16, none⟩ = some (.int .u8 x.mei) := by rw [hwc]; exact box_x0 _ _ _ _ 16
  have py16 : wc.cell? ⟨w.heap.size + 1, 16, none⟩ = some (.int .u8 y.mei) := by rw [hwc]; exact box_y0 _ _ _ _ 16
  have px17 : wc.cell? ⟨w.heap.size, 17, none⟩ = some (.int .u8 x.kind) := by rw [hwc]; exact box_x0 _ _ _ _ 17
  have py17 : wc.cell? ⟨w.heap.size + 1, 17, none⟩ = some (.int .u8 y.kind) := by rw [hwc]; exact box_y0 _ _ _ _ 17
  have px18 : wc.cell? ⟨w.heap.size, 18, none⟩ = some (.int .u8 x.level) := by rw [hwc]; exact box_x0 _ _ _ _ 18
  have py18 : wc.cell? ⟨w.heap.size + 1, 18, none⟩ = some (.int .u8 y.level) := by rw [hwc]; exact box_y0 _ _ _ _ 18
  have px19 : wc.cell? ⟨w.heap.size, 19, none⟩ = some (.int .u8 x.more) := by rw [hwc]; exact box_x0 _ _ _ _ 19
  have py19 : wc.cell? ⟨w.heap.size + 1, 19, none⟩ = some (.int .u8 y.more) := by rw [hwc]; exact box_y0 _ _ _ _ 19
  have px20 : wc.cell? ⟨w.heap.size, 20, none⟩ = some (.int .u8 x.next) := by rw [hwc]; exact box_x0 _ _ _ _ 20
  have py20 : wc.cell? ⟨w.heap.size + 1, 20, none⟩ = some (.int .u8 y.next) := by rw [hwc]; exact box_y0 _ _ _ _ 20
  have hB : Below w.heap.size w wc := by rw [hwc]; exact ((Below.refl _ _).alloc (Nat.le_refl _) _).alloc (by simp) _
  have HB := Aside0.mk hB
  clear hB hwc
  refine wp_region_list ?_
  refine reg1_any x y  w wc _ _ px0 py0 px1 py1 px2 py2 px3 py3 px4 py4 px5 py5 px6 py6 px7 py7 px8 py8 px9 py9 px10 py10 px11 py11 (by rfl) rfl rfl ?_
  intro a1 z1 f1 x1 y1 s1
  cases v1 : ((x.code != y.code) || (x.fail != y.fail) || (x.addr != y.addr) || (x.count != y.count) || (x.value != y.value) || (x.and_ != y.and_) || (x.or_ != y.or_) || (x.addr2 != y.addr2) || (x.sub != y.sub) || (x.status != y.status) || (x.events != y.events) || (x.messages != y.messages)) with
  | true =>
    rw [v1] at s1
    obtain ⟨t1, q1⟩ := a1
    have f1n : q1 = [] := f1
    clear f1
    subst f1n
    have g1 : t1.getD 95 undef = .bool true := by rw [Array.getD_eq_getD_getElem?, s1]; rfl
    go_wp2
    refine wp_cond_true (show t1.getD 95 undef = _ from g1) ?_
    go_wp2
    exact bodyPost_ret (v := .bool false) (by simp [results, Try.results14, go_sem, *]) rfl ⟨rfl, HB.out⟩ -- t1.setIfInBounds 4 (.bool false)
  | false =>
    rw [v1] at s1
    obtain ⟨t1, q1⟩ := a1
    have f1n : q1 = [] := f1
    clear f1
    subst f1n
    have g1 : t1.getD 95 undef = .bool false := by rw [Array.getD_eq_getD_getElem?, s1]; rfl
    go_wp2
    refine wp_cond_false (show t1.getD 95 undef = _ from g1) ?_
    go_upto_region 3 with (fail)
    refine wp_region_list ?_
    refine reg3_any x y w wc _ _ px16 py16 px17 py17 px18 py18 px19 py19 px20 py20 z1 x1 y1 ?_
    intro a2 z2 f2 x2 y2 s2
    have v2 : ((x.mei != y.mei) || (x.kind != y.kind) || (x.level != y.level) || (x.more != y.more) || (x.next != y.next)) = true := by
      simp only [Bool.or_eq_false_iff] at v1
      cases hv : ((x.mei != y.mei) || (x.kind != y.kind) || (x.level != y.level) || (x.more != y.more) || (x.next != y.next)) with
      | true => rfl
      | false =>
        simp only [Bool.or_eq_false_iff] at hv
        exfalso
        unfold plainB at hp
        simp only [bne_eq_false_iff_eq] at v1 hv
        simp [v1, hv] at hp
    rw [v2] at s2
    obtain ⟨t2, q2⟩ := a2
    have f2n : q2 = [] := f2
    clear f2
    subst f2n
    have g2 : t2.getD 128 undef = .bool true := by rw [Array.getD_eq_getD_getElem?, s2]; rfl
    go_wp2
    refine wp_cond_true (show t2.getD 128 undef = _ from g2) ?_
    go_wp2
    exact bodyPost_ret (v := .bool false) (by simp [results, Try.results14, go_sem, *]) rfl ⟨rfl, HB.out⟩ -- t2
end Go.Proofs.Ytdjeekpgcjcffaa.Same
end
section
namespace Go.Proofs.Ytdjeekpgcjcffaa.Same
open Go.RowKit Go.Proofs.Ytdjeekpgcjcffaa.P Go.Proofs.Ytdjeekpgcjcffaa.E Go.Proofs.YtdjeekpgcjcffaaW.PrintWords Go.Proofs.YtdjeekpgcjcffaaW.PrintLast Go.Proofs.YtdjeekpgcjcffaaW.PrintMore
def bmr (n m : Nat) : Array Bool := ⟨(List.range n).map fun i => m.testBit i⟩
def refs.T21 : Bool × List (List Nat × List Nat) := (true, [([], []), ([0], [0]), ([], []), ([1, 2], [1, 2]), ([3], [3]), ([4], [4]), ([], []), ([6], [6]), ([], []), ([7, 8], [7, 8]), ([9], [9]), ([10], [10]), ([5, 11], [5, 11]), ([12, 12, 0, 1, 2, 3, 4, 5, 6, 7, 8, 9, 10, 11, 12], [12])])
def refs.B21 : List Nat := [0, 1, 0, 7, 15, 31, 0, 64, 0, 448, 960, 1984, 4095, 8191]
theorem refs.tab21 : rtab .any (opsOf Try.f14 21) = refs.T21 := by kernel_rfl
theorem refs.bits21 : waitsOk refs.T21.2 refs.B21 = true := by kernel_rfl
def refs.T22 : Bool × List (List Nat × List Nat) := (true, [([], []), ([0], [0]), ([1], [1]), ([2], [2]), ([3, 2], [2, 3]), ([2], [2]), ([4, 5, 2], [2, 4, 5]), ([6, 2], [2, 6]), ([7, 2], [2, 7]), ([2], [2]), ([9, 2], [2, 9]), ([2], [2]), ([10, 11, 2], [2, 10, 11]), ([12, 2], [2, 12]), ([13, 2], [2, 13]), ([8, 14, 2], [2, 8, 14]), ([2, 15], [2, 15])])
def refs.B22 : List Nat := [0, 1, 3, 7, 15, 7, 63, 127, 255, 7, 519, 7, 3591, 7687, 15879, 32767, 65535]
theorem refs.tab22 : rtab .any (opsOf Try.f14 22) = refs.T22 := by kernel_rfl
theorem refs.bits22 : waitsOk refs.T22.2 refs.B22 = true := by kernel_rfl
def restB (x y : Msg) : Bool := x.words == y.words && x.bits == y.bits && x.data == y.data && listB recB x.recs y.recs && listB objB x.objects y.objects
theorem rest_rec (x y : Msg) (h : x.recs.length ≠ y.recs.length) : restB x y = false := by
  have e : listB recB x.recs y.recs = false := by
    cases h2 : listB recB x.recs y.recs with
    | false => rfl
    | true => exact absurd (listB_len _ _ h2) h
  unfold restB
  rw [e, Bool.and_false, Bool.false_and]
theorem rest_obj (x y : Msg) (h : x.objects.length ≠ y.objects.length) : restB x y = false := by
  have e : listB objB x.objects y.objects = false := by
    cases h2 : listB objB x.objects y.objects with
    | false => rfl
    | true => exact absurd (listB_len _ _ h2) h
  unfold restB
  rw [e, Bool.and_false]
theorem rec_drop {x y : Msg} {k : Nat} (h : k < x.recs.length) (h2 : k < y.recs.length) : listB recB (x.recs.drop k) (y.recs.drop k) = (recB (rd_T43 x.recs (k : Int)) (rd_T43 y.recs (k : Int)) && listB recB (x.recs.drop (k + 1)) (y.recs.drop (k + 1))) := by
  rw [drop_cons h z43, drop_cons h2 z43]
  unfold rd_T43
  rw [Int.toNat_natCast]
  rfl
theorem obj_drop {x y : Msg} {k : Nat} (h : k < x.objects.length) (h2 : k < y.objects.length) : listB objB (x.objects.drop k) (y.objects.drop k) = (objB (rd_T69 x.objects (k : Int)) (rd_T69 y.objects (k : Int)) && listB objB (x.objects.drop (k + 1)) (y.objects.drop (k + 1))) := by
  rw [drop_cons h z69, drop_cons h2 z69]
  unfold rd_T69
  rw [Int.toNat_natCast]
  rfl
theorem obj_bytes {m : Msg} (g : goodM m) {k : Nat} (h : k < m.objects.length) : isBytes (rd_T69 m.objects (k : Int)).f1 := by
  refine (goodM_num g).2.2 _ ?_
  unfold rd_T69
  rw [Int.toNat_natCast, List.getD_eq_getElem?_getD, List.getElem?_eq_getElem h]
  exact List.getElem_mem h
theorem refsame_ne {cx cy : Array Value} {x y : Msg} {w : World} (hx : IsMsg w cx x) (hy : IsMsg w cy y) (hp : plainB x y = false) :
    Calls Try.prog 14 #[.agg cx, .agg cy] w fun e w' => e = .returned (.bool false) ∧ Below w.heap.size w w' := by
  obtain ⟨A12, c12, A13, c13, A14, c14, A15, c15, A21, c21, rfl, _⟩ := hx
  obtain ⟨B12, d12, B13, d13, B14, d14, B15, d15, B21, d21, rfl, _⟩ := hy
  exact ref_diff x y A12 c12 A13 c13 A14 c14 A15 c15 A21 c21 B12 d12 B13 d13 B14 d14 B15 d15 B21 d21 w hp
theorem refsame_go {cx cy : Array Value} {x y : Msg} {w : World} (hx : IsMsg w cx x) (hy : IsMsg w cy y) (hp : plainB x y = true) :
    Calls Try.prog 14 #[.agg cx, .agg cy] w fun e w' => e = .returned (.bool (restB x y)) ∧ Below w.heap.size w w' := by
  have hp_ := hp
  unfold plainB at hp_
  simp only [Bool.and_eq_true, beq_iff_eq] at hp_
  obtain ⟨⟨⟨⟨⟨⟨⟨⟨⟨⟨⟨⟨⟨⟨⟨⟨e0, e1⟩, e2⟩, e3⟩, e4⟩, e5⟩, e6⟩, e7⟩, e8⟩, e9⟩, e10⟩, e11⟩, e16⟩, e17⟩, e18⟩, e19⟩, e20⟩ := hp_
  have n0 : (x.code != y.code) = false := by rw [bne, e0, beq_self_eq_true]; rfl
  have n1 : (x.fail != y.fail) = false := by rw [bne, e1, beq_self_eq_true]; rfl
  have n2 : (x.addr != y.addr) = false := by rw [bne, e2, beq_self_eq_true]; rfl
  have n3 : (x.count != y.count) = false := by rw [bne, e3, beq_self_eq_true]; rfl
  have n4 : (x.value != y.value) = false := by rw [bne, e4, beq_self_eq_true]; rfl
  have n5 : (x.and_ != y.and_) = false := by rw [bne, e5, beq_self_eq_true]; rfl
  have n6 : (x.or_ != y.or_) = false := by rw [bne, e6, beq_self_eq_true]; rfl
  have n7 : (x.addr2 != y.addr2) = false := by rw [bne, e7, beq_self_eq_true]; rfl
  have n8 : (x.sub != y.sub) = false := by rw [bne, e8, beq_self_eq_true]; rfl
  have n9 : (x.status != y.status) = false := by rw [bne, e9, beq_self_eq_true]; rfl
  have n10 : (x.events != y.events) = false := by rw [bne, e10, beq_self_eq_true]; rfl
  have n11 : (x.messages != y.messages) = false := by rw [bne, e11, beq_self_eq_true]; rfl
  have n16 : (x.mei != y.mei) = false := by rw [bne, e16, beq_self_eq_true]; rfl
  have n17 : (x.kind != y.kind) = false := by rw [bne, e17, beq_self_eq_true]; rfl
  have n18 : (x.level != y.level) = false := by rw [bne, e18, beq_self_eq_true]; rfl
  have n19 : (x.more != y.more) = false := by rw [bne, e19, beq_self_eq_true]; rfl
  have n20 : (x.next != y.next) = false := by rw [bne, e20, beq_self_eq_true]; rfl
  clear e0 e1 e2 e3 e4 e5 e6 e7 e8 e9 e10 e11 e16 e17 e18 e19 e20
  have bx_ : ((w.alloc (Obj.cells cx 30)).alloc (Obj.cells cy 30)).heap[w.heap.size]? = some (.cells cx 30 (0, 0)) := blk_alloc (blk_new w _) _
  have by_ : ((w.alloc (Obj.cells cx 30)).alloc (Obj.cells cy 30)).heap[w.heap.size + 1]? = some (.cells cy 30 (0, 0)) := by have := blk_new (w.alloc (Obj.cells cx 30)) (Obj.cells cy 30); simpa using this
  have px0 := bx_code bx_ hx
  have px1 := bx_fail bx_ hx
  have px2 := bx_addr bx_ hx
  have px3 := bx_count bx_ hx
  have px4 := bx_value bx_ hx
  have px5 := bx_and bx_ hx
  have px6 := bx_or bx_ hx
  have px7 := bx_addr2 bx_ hx
  have px8 := bx_sub bx_ hx
  have px9 := bx_status bx_ hx
  have px10 := bx_events bx_ hx
  have px11 := bx_messages bx_ hx
  have px16 := bx_mei bx_ hx
  have px17 := bx_kind bx_ hx
  have px18 := bx_level bx_ hx
  have px19 := bx_more bx_ hx
  have px20 := bx_next bx_ hx
  have py0 := bx_code by_ hy
  have py1 := bx_fail by_ hy
  have py2 := bx_addr by_ hy
  have py3 := bx_count by_ hy
  have py4 := bx_value by_ hy
  have py5 := bx_and by_ hy
  have py6 := bx_or by_ hy
  have py7 := bx_addr2 by_ hy
  have py8 := bx_sub by_ hy
  have py9 := bx_status by_ hy
  have py10 := bx_events by_ hy
  have py11 := bx_messages by_ hy
  have py16 := bx_mei by_ hy
  have py17 := bx_kind by_ hy
  have py18 := bx_level by_ hy
  have py19 := bx_more by_ hy
  have py20 := bx_next by_ hy
  obtain ⟨Ax12, cx12, Ax13, cx13, Ax14, cx14, Ax15, cx15, Ax21, cx21, ⟨lx12, lx13, lx14, lx15, lx21⟩, r12, r13, r14, r15, r21⟩ := hx.lists
  have RX12 := Aside0.mk r12
  have RX13 := Aside0.mk r13
  have RX14 := Aside0.mk r14
  have RX15 := Aside0.mk r15
  have RX21 := Aside0.mk r21
  have px12 := (blk_cell bx_ 12).trans lx12
  have px13 := (blk_cell bx_ 13).trans lx13
  have px14 := (blk_cell bx_ 14).trans lx14
  have px15 := (blk_cell bx_ 15).trans lx15
  have px21 := (blk_cell bx_ 21).trans lx21
  have LX12 := Aside0.mk lx12
  have LX13 := Aside0.mk lx13
  have LX14 := Aside0.mk lx14
  have LX15 := Aside0.mk lx15
  have LX21 := Aside0.mk lx21
  clear r12 r13 r14 r15 r21 lx12 lx13 lx14 lx15 lx21
  obtain ⟨Ay12, cy12, Ay13, cy13, Ay14, cy14, Ay15, cy15, Ay21, cy21, ⟨ly12, ly13, ly14, ly15, ly21⟩, r12, r13, r14, r15, r21⟩ := hy.lists
  have RY12 := Aside0.mk r12
  have RY13 := Aside0.mk r13
  have RY14 := Aside0.mk r14
  have RY15 := Aside0.mk r15
  have RY21 := Aside0.mk r21
  have py12 := (blk_cell by_ 12).trans ly12
  have py13 := (blk_cell by_ 13).trans ly13
  have py14 := (blk_cell by_ 14).trans ly14
  have py15 := (blk_cell by_ 15).trans ly15
  have py21 := (blk_cell by_ 21).trans ly21
  have LY12 := Aside0.mk ly12
  have LY13 := Aside0.mk ly13
  have LY14 := Aside0.mk ly14
  have LY15 := Aside0.mk ly15
  have LY21 := Aside0.mk ly21
  clear r12 r13 r14 r15 r21 ly12 ly13 ly14 ly15 ly21
  have DX := Aside0.mk (goodM_num hx.good).2.1
  have DY := Aside0.mk (goodM_num hy.good).2.1
  have GX := Aside0.mk hx.good
  have GY := Aside0.mk hy.good
  have H0 := ((Hd.start w).al (Obj.cells cx 30)).al (Obj.cells cy 30)
  have H := Aside0.mk ((H0.add (sta_blk _ _) bx_).add (sta_blk _ _) by_)
  clear H0 bx_ by_ hx hy hp
  obtain ⟨R_, hR⟩ : ∃ z, z = restB x y := ⟨_, rfl⟩
  rw [← hR]
  have RR := Aside0.mk hR
  clear hR
  have hu1 := Try.underlying30
  have hu2 := Try.underlying43
  go_enter Try.func14, Try.ntmps14
  go_upto_region 5 with (fail)
  clear px0 py0 px1 py1 px2 py2 px3 py3 px4 py4 px5 py5 px6 py6 px7 py7 px8 py8 px9 py9 px10 py10 px11 py11 px16 py16 px17 py17 px18 py18 px19 py19 px20 py20 n0 n1 n2 n3 n4 n5 n6 n7 n8 n9 n10 n11 n16 n17 n18 n19 n20
  clear px13 py13 px14 py14 px15 py15 px21 py21
  go_upto_region 6 with (go_at_call 29; (with_reducible refine (R01.words_c (Kd.C_max RX12.out.1) (Kd.C_below RX12.out.1 H.out.b) RX12.out.2 (Kd.C_below RY12.out.1 H.out.b) RY12.out.2).mono ?_); rintro e w6 ⟨rfl, hb_⟩; have n0_ := Aside0.mk (H.out.on hb_); clear H hb_; have H := n0_; clear n0_)
  have px13 := (blk_cell H.out.f.1.2 13).trans LX13.out
  have py13 := (blk_cell H.out.f.2 13).trans LY13.out
  go_upto_region 7 with (go_at_call 30; (with_reducible refine (R01.bools_c (Kd.C_max RX13.out.1) (Kd.C_below RX13.out.1 H.out.b) RX13.out.2 (Kd.C_below RY13.out.1 H.out.b) RY13.out.2).mono ?_); rintro e w7 ⟨rfl, hb_⟩; have n0_ := Aside0.mk (H.out.on hb_); clear H hb_; have H := n0_; clear n0_)
  have px14 := (blk_cell H.out.f.1.2 14).trans LX14.out
  have py14 := (blk_cell H.out.f.2 14).trans LY14.out
  go_upto_region 8 with (go_at_call 18; (with_reducible refine (R01.same_c DX.out DY.out (Kd.C_below RX14.out.1 H.out.b) RX14.out.2 (Kd.C_below RY14.out.1 H.out.b) RY14.out.2).mono ?_); rintro e w8 ⟨rfl, hb_⟩; have n0_ := Aside0.mk (H.out.on hb_); clear H hb_; have H := n0_; clear n0_)
  have px15 := (blk_cell H.out.f.1.2 15).trans LX15.out
  have py15 := (blk_cell H.out.f.2 15).trans LY15.out
  have px21 := (blk_cell H.out.f.1.2 21).trans LX21.out
  have py21 := (blk_cell H.out.f.2 21).trans LY21.out
  have Ewords : ∀ b, (x.words == y.words) = b → b = false → R_ = false := fun b hq hb => by rw [RR.out]; rw [hb] at hq; rw [restB, hq, Bool.false_and, Bool.false_and, Bool.false_and, Bool.false_and]
  have EEwords := Aside0.mk Ewords
  clear Ewords
  have Ebits : ∀ b, (x.bits == y.bits) = b → b = false → R_ = false := fun b hq hb => by rw [RR.out]; rw [hb] at hq; rw [restB, hq, Bool.and_false, Bool.false_and, Bool.false_and, Bool.false_and]
  have EEbits := Aside0.mk Ebits
  clear Ebits
  have Edata : ∀ b, (x.data == y.data) = b → b = false → R_ = false := fun b hq hb => by rw [RR.out]; rw [hb] at hq; rw [restB, hq, Bool.and_false, Bool.false_and, Bool.false_and]
  have EEdata := Aside0.mk Edata
  clear Edata
  cases hwords : (x.words == y.words) with
  | false =>
    have er := Aside0.mk (EEwords.out _ hwords rfl)
    clear hwords
    go_wp2
    go_ret
    exact ⟨congrArg (fun b => Ending.returned (.bool b)) er.out.symm, H.out.b⟩
  | true =>
  have Iwords := Aside0.mk hwords
  clear hwords EEwords
  cases hbits : (x.bits == y.bits) with
  | false =>
    have er := Aside0.mk (EEbits.out _ hbits rfl)
    clear hbits
    go_wp2
    go_ret
    exact ⟨congrArg (fun b => Ending.returned (.bool b)) er.out.symm, H.out.b⟩
  | true =>
  have Ibits := Aside0.mk hbits
  clear hbits EEbits
  cases hdata : (x.data == y.data) with
  | false =>
    have er := Aside0.mk (EEdata.out _ hdata rfl)
    clear hdata
    go_wp2
    go_ret
    exact ⟨congrArg (fun b => Ending.returned (.bool b)) er.out.symm, H.out.b⟩
  | true =>
  have Idata := Aside0.mk hdata
  clear hdata EEdata
  by_cases lrecs : x.recs.length = y.recs.length
  rotate_left
  · have er := Aside0.mk (RR.out.trans (rest_rec x y lrecs))
    have n1 : ((x.recs.length : Int) != (y.recs.length : Int)) = true := bne_iff_ne.2 (by omega)
    have n2 : (x.recs.length != y.recs.length) = true := bne_iff_ne.2 lrecs
    clear lrecs
    go_wp2
    go_ret
    exact ⟨congrArg (fun b => Ending.returned (.bool b)) er.out.symm, H.out.b⟩
  have mrecs : ((x.recs.length : Int) != (y.recs.length : Int)) = false := by rw [bne_eq_false_iff_eq]; omega
  have qrecs : (x.recs.length != y.recs.length) = false := by rw [bne_eq_false_iff_eq]; exact lrecs
  have Lrecs := Aside0.mk lrecs
  clear lrecs
  by_cases lobjects : x.objects.length = y.objects.length
  rotate_left
  · have er := Aside0.mk (RR.out.trans (rest_obj x y lobjects))
    have n1 : ((x.objects.length : Int) != (y.objects.length : Int)) = true := bne_iff_ne.2 (by omega)
    have n2 : (x.objects.length != y.objects.length) = true := bne_iff_ne.2 lobjects
    clear lobjects
    go_wp2
    go_ret
    exact ⟨congrArg (fun b => Ending.returned (.bool b)) er.out.symm, H.out.b⟩
  have mobjects : ((x.objects.length : Int) != (y.objects.length : Int)) = false := by rw [bne_eq_false_iff_eq]; omega
  have qobjects : (x.objects.length != y.objects.length) = false := by rw [bne_eq_false_iff_eq]; exact lobjects
  have Lobjects := Aside0.mk lobjects
  clear lobjects
  have RQ := Aside0.mk (show R_ = (listB recB x.recs y.recs && listB objB x.objects y.objects) by rw [RR.out, restB, Iwords.out, Ibits.out, Idata.out]; rfl)
  clear RR Iwords Ibits Idata
  go_wp2
  clear mrecs qrecs mobjects qobjects px15 py15 px21 py21
  go_loopw [8] (fun i wr => ∃ k : Nat, k ≤ x.recs.length ∧ i = .int .i64 k ∧ Aside0 (R_ = (listB recB (x.recs.drop k) (y.recs.drop k) && listB objB x.objects y.objects)) ∧ Aside0 (Hd w (fun W => (True ∧ W.heap[w.heap.size]? = some (.cells cx 30 (0, 0))) ∧ W.heap[w.heap.size + 1]? = some (.cells cy 30 (0, 0))) wr)) (fun i _ => x.recs.length - (intOf i).toNat)
  case atStart => exact ⟨0, Nat.zero_le _, rfl, ⟨RQ.out⟩, ⟨H.out⟩⟩
  case round =>
    clear H
    obtain ⟨k, hk, rfl, HL, H⟩ := hrel
    have hll : x.recs.length ≤ 9223372036854775807 := RX15.out.1.2.1
    have px15 := (blk_cell H.out.f.1.2 15).trans LX15.out
    have py15 := (blk_cell H.out.f.2 15).trans LY15.out
    by_cases hlt : k < x.recs.length
    · have hlt2 : k < y.recs.length := by rw [← Lrecs.out]; exact hlt
      obtain ⟨adA, A3, cA3, rfl, x0, x1, x2, x3, gA, qA⟩ := at_T43 RX15.out.1 (k : Int) (by omega) (by omega)
      obtain ⟨adB, B3, cB3, rfl, y0, y1, y2, y3, gB, qB⟩ := at_T43 RY15.out.1 (k : Int) (by omega) (by omega)
      have hd := HL.out
      rw [rec_drop hlt hlt2] at hd
      have rx0 := (H.out.b.cell (World.block_lt_of_cell? w _ x0)).trans x0
      rw [Int.toNat_natCast] at rx0
      have ax0 := fun o : Obj => ((below_alloc (Below.refl _ wr) o).cell (World.block_lt_of_cell? wr _ rx0)).trans rx0
      have rx1 := (H.out.b.cell (World.block_lt_of_cell? w _ x1)).trans x1
      rw [Int.toNat_natCast] at rx1
      have ax1 := fun o : Obj => ((below_alloc (Below.refl _ wr) o).cell (World.block_lt_of_cell? wr _ rx1)).trans rx1
      have rx2 := (H.out.b.cell (World.block_lt_of_cell? w _ x2)).trans x2
      rw [Int.toNat_natCast] at rx2
      have ax2 := fun o : Obj => ((below_alloc (Below.refl _ wr) o).cell (World.block_lt_of_cell? wr _ rx2)).trans rx2
      have rx3 := (H.out.b.cell (World.block_lt_of_cell? w _ x3)).trans x3
      rw [Int.toNat_natCast] at rx3
      have ax3 := fun o : Obj => ((below_alloc (Below.refl _ wr) o).cell (World.block_lt_of_cell? wr _ rx3)).trans rx3
      have ry0 := (H.out.b.cell (World.block_lt_of_cell? w _ y0)).trans y0
      rw [Int.toNat_natCast] at ry0
      have ay0 := fun o : Obj => ((below_alloc (Below.refl _ wr) o).cell (World.block_lt_of_cell? wr _ ry0)).trans ry0
      have ry1 := (H.out.b.cell (World.block_lt_of_cell? w _ y1)).trans y1
      rw [Int.toNat_natCast] at ry1
      have ay1 := fun o : Obj => ((below_alloc (Below.refl _ wr) o).cell (World.block_lt_of_cell? wr _ ry1)).trans ry1
      have ry2 := (H.out.b.cell (World.block_lt_of_cell? w _ y2)).trans y2
      rw [Int.toNat_natCast] at ry2
      have ay2 := fun o : Obj => ((below_alloc (Below.refl _ wr) o).cell (World.block_lt_of_cell? wr _ ry2)).trans ry2
      have ry3 := (H.out.b.cell (World.block_lt_of_cell? w _ y3)).trans y3
      rw [Int.toNat_natCast] at ry3
      have ay3 := fun o : Obj => ((below_alloc (Below.refl _ wr) o).cell (World.block_lt_of_cell? wr _ ry3)).trans ry3
      clear x0 x1 x2 x3 y0 y1 y2 y3
      have sx15 := fun o : Obj => ((below_alloc (Below.refl _ wr) o).cell (World.block_lt_of_cell? wr _ px15)).trans px15
      have sy15 := fun o : Obj => ((below_alloc (Below.refl _ wr) o).cell (World.block_lt_of_cell? wr _ py15)).trans py15
      generalize rd_T43 x.recs (k : Int) = ex at *
      generalize rd_T43 y.recs (k : Int) = ey at *
      have HD := Aside0.mk hd
      have QA := Aside0.mk qA
      have QB := Aside0.mk qB
      have ZA := Aside0.mk gA
      have ZB := Aside0.mk gB
      clear hd qA qB gA gB
      have CW := Aside0.mk (fun (W : World) (hb : Below wr.heap.size wr W) => R01.words_c (l := ex.f3) (m := ey.f3) (Kd.C_max QA.out) (A := A3) (B := B3) (c := cA3) (d := cB3) (W := W) (Kd.C_below (Kd.C_below QA.out H.out.b) hb) ZA.out (Kd.C_below (Kd.C_below QB.out H.out.b) hb) ZB.out)
      cases hq : (ex.f3 == ey.f3) with
      | false =>
        have CW2 := CW.out
        rw [hq] at CW2
        have CW := Aside0.mk CW2
        clear CW2
        have er := Aside0.mk (show R_ = false by rw [HD.out, recB, hq]; simp)
        clear hq
        go_wp2_with (go_at_call 29; (with_reducible refine (CW.out _ (below_alloc (below_alloc (Below.refl wr.heap.size wr) _) _)).mono ?_); rintro e wn ⟨rfl, hb_⟩; have H2 := Aside0.mk (H.out.on ((below_alloc (below_alloc (Below.refl wr.heap.size wr) _) _).trans (hb_.mono (by simp; omega)))); have b9_ := blk_below (blk_alloc (blk_new wr (Obj.cells #[Value.int IntKind.u16 ex.f0, Value.int IntKind.u16 ex.f1, Value.int IntKind.u16 ex.f2, Value.slice A3 ex.f3.length cA3] 43)) (Obj.cells #[Value.int IntKind.u16 ey.f0, Value.int IntKind.u16 ey.f1, Value.int IntKind.u16 ey.f2, Value.slice B3 ey.f3.length cB3] 43)) hb_; have b10_ : wn.heap[wr.heap.size + 1]? = some (Obj.cells #[Value.int IntKind.u16 ey.f0, Value.int IntKind.u16 ey.f1, Value.int IntKind.u16 ey.f2, Value.slice B3 ey.f3.length cB3] 43) := blk_below (by have := blk_new (wr.alloc (Obj.cells #[Value.int IntKind.u16 ex.f0, Value.int IntKind.u16 ex.f1, Value.int IntKind.u16 ex.f2, Value.slice A3 ex.f3.length cA3] 43)) (Obj.cells #[Value.int IntKind.u16 ey.f0, Value.int IntKind.u16 ey.f1, Value.int IntKind.u16 ey.f2, Value.slice B3 ey.f3.length cB3] 43); simpa using this) hb_; have k9_0 := (blk_cell b9_ 0).trans rfl; have k9_1 := (blk_cell b9_ 1).trans rfl; have k9_2 := (blk_cell b9_ 2).trans rfl; have k10_0 := (blk_cell b10_ 0).trans rfl; have k10_1 := (blk_cell b10_ 1).trans rfl; have k10_2 := (blk_cell b10_ 2).trans rfl; clear hb_ b9_ b10_)
        go_ret
        exact ⟨congrArg (fun b => Ending.returned (.bool b)) er.out.symm, H2.out.b⟩
      | true =>
      have CW2 := CW.out
      rw [hq] at CW2
      clear CW
      have CW := Aside0.mk CW2
      have F3 := Aside0.mk hq
      clear CW2 hq
      cases hq : (ex.f0 == ey.f0) with
      | false =>
        have hn : (ex.f0 != ey.f0) = true := by rw [bne, hq]; rfl
        have er := Aside0.mk (show R_ = false by rw [HD.out, recB, hq]; simp)
        clear hq
        go_wp2_with (go_at_call 29; (with_reducible refine (CW.out _ (below_alloc (below_alloc (Below.refl wr.heap.size wr) _) _)).mono ?_); rintro e wn ⟨rfl, hb_⟩; have H2 := Aside0.mk (H.out.on ((below_alloc (below_alloc (Below.refl wr.heap.size wr) _) _).trans (hb_.mono (by simp; omega)))); have b9_ := blk_below (blk_alloc (blk_new wr (Obj.cells #[Value.int IntKind.u16 ex.f0, Value.int IntKind.u16 ex.f1, Value.int IntKind.u16 ex.f2, Value.slice A3 ex.f3.length cA3] 43)) (Obj.cells #[Value.int IntKind.u16 ey.f0, Value.int IntKind.u16 ey.f1, Value.int IntKind.u16 ey.f2, Value.slice B3 ey.f3.length cB3] 43)) hb_; have b10_ : wn.heap[wr.heap.size + 1]? = some (Obj.cells #[Value.int IntKind.u16 ey.f0, Value.int IntKind.u16 ey.f1, Value.int IntKind.u16 ey.f2, Value.slice B3 ey.f3.length cB3] 43) := blk_below (by have := blk_new (wr.alloc (Obj.cells #[Value.int IntKind.u16 ex.f0, Value.int IntKind.u16 ex.f1, Value.int IntKind.u16 ex.f2, Value.slice A3 ex.f3.length cA3] 43)) (Obj.cells #[Value.int IntKind.u16 ey.f0, Value.int IntKind.u16 ey.f1, Value.int IntKind.u16 ey.f2, Value.slice B3 ey.f3.length cB3] 43); simpa using this) hb_; have k9_0 := (blk_cell b9_ 0).trans rfl; have k9_1 := (blk_cell b9_ 1).trans rfl; have k9_2 := (blk_cell b9_ 2).trans rfl; have k10_0 := (blk_cell b10_ 0).trans rfl; have k10_1 := (blk_cell b10_ 1).trans rfl; have k10_2 := (blk_cell b10_ 2).trans rfl; clear hb_ b9_ b10_)
        go_ret
        exact ⟨congrArg (fun b => Ending.returned (.bool b)) er.out.symm, H2.out.b⟩
      | true =>
      have n0 : (ex.f0 != ey.f0) = false := by rw [bne, hq]; rfl
      have F0 := Aside0.mk hq
      clear hq
      cases hq : (ex.f1 == ey.f1) with
      | false =>
        have hn : (ex.f1 != ey.f1) = true := by rw [bne, hq]; rfl
        have er := Aside0.mk (show R_ = false by rw [HD.out, recB, hq]; simp)
        clear hq
        go_wp2_with (go_at_call 29; (with_reducible refine (CW.out _ (below_alloc (below_alloc (Below.refl wr.heap.size wr) _) _)).mono ?_); rintro e wn ⟨rfl, hb_⟩; have H2 := Aside0.mk (H.out.on ((below_alloc (below_alloc (Below.refl wr.heap.size wr) _) _).trans (hb_.mono (by simp; omega)))); have b9_ := blk_below (blk_alloc (blk_new wr (Obj.cells #[Value.int IntKind.u16 ex.f0, Value.int IntKind.u16 ex.f1, Value.int IntKind.u16 ex.f2, Value.slice A3 ex.f3.length cA3] 43)) (Obj.cells #[Value.int IntKind.u16 ey.f0, Value.int IntKind.u16 ey.f1, Value.int IntKind.u16 ey.f2, Value.slice B3 ey.f3.length cB3] 43)) hb_; have b10_ : wn.heap[wr.heap.size + 1]? = some (Obj.cells #[Value.int IntKind.u16 ey.f0, Value.int IntKind.u16 ey.f1, Value.int IntKind.u16 ey.f2, Value.slice B3 ey.f3.length cB3] 43) := blk_below (by have := blk_new (wr.alloc (Obj.cells #[Value.int IntKind.u16 ex.f0, Value.int IntKind.u16 ex.f1, Value.int IntKind.u16 ex.f2, Value.slice A3 ex.f3.length cA3] 43)) (Obj.cells #[Value.int IntKind.u16 ey.f0, Value.int IntKind.u16 ey.f1, Value.int IntKind.u16 ey.f2, Value.slice B3 ey.f3.length cB3] 43); simpa using this) hb_; have k9_0 := (blk_cell b9_ 0).trans rfl; have k9_1 := (blk_cell b9_ 1).trans rfl; have k9_2 := (blk_cell b9_ 2).trans rfl; have k10_0 := (blk_cell b10_ 0).trans rfl; have k10_1 := (blk_cell b10_ 1).trans rfl; have k10_2 := (blk_cell b10_ 2).trans rfl; clear hb_ b9_ b10_)
        go_ret
        exact ⟨congrArg (fun b => Ending.returned (.bool b)) er.out.symm, H2.out.b⟩
      | true =>
      have n1 : (ex.f1 != ey.f1) = false := by rw [bne, hq]; rfl
      have F1 := Aside0.mk hq
      clear hq
      cases hq : (ex.f2 == ey.f2) with
      | false =>
        have hn : (ex.f2 != ey.f2) = true := by rw [bne, hq]; rfl
        have er := Aside0.mk (show R_ = false by rw [HD.out, recB, hq]; simp)
        clear hq
        go_wp2_with (go_at_call 29; (with_reducible refine (CW.out _ (below_alloc (below_alloc (Below.refl wr.heap.size wr) _) _)).mono ?_); rintro e wn ⟨rfl, hb_⟩; have H2 := Aside0.mk (H.out.on ((below_alloc (below_alloc (Below.refl wr.heap.size wr) _) _).trans (hb_.mono (by simp; omega)))); have b9_ := blk_below (blk_alloc (blk_new wr (Obj.cells #[Value.int IntKind.u16 ex.f0, Value.int IntKind.u16 ex.f1, Value.int IntKind.u16 ex.f2, Value.slice A3 ex.f3.length cA3] 43)) (Obj.cells #[Value.int IntKind.u16 ey.f0, Value.int IntKind.u16 ey.f1, Value.int IntKind.u16 ey.f2, Value.slice B3 ey.f3.length cB3] 43)) hb_; have b10_ : wn.heap[wr.heap.size + 1]? = some (Obj.cells #[Value.int IntKind.u16 ey.f0, Value.int IntKind.u16 ey.f1, Value.int IntKind.u16 ey.f2, Value.slice B3 ey.f3.length cB3] 43) := blk_below (by have := blk_new (wr.alloc (Obj.cells #[Value.int IntKind.u16 ex.f0, Value.int IntKind.u16 ex.f1, Value.int IntKind.u16 ex.f2, Value.slice A3 ex.f3.length cA3] 43)) (Obj.cells #[Value.int IntKind.u16 ey.f0, Value.int IntKind.u16 ey.f1, Value.int IntKind.u16 ey.f2, Value.slice B3 ey.f3.length cB3] 43); simpa using this) hb_; have k9_0 := (blk_cell b9_ 0).trans rfl; have k9_1 := (blk_cell b9_ 1).trans rfl; have k9_2 := (blk_cell b9_ 2).trans rfl; have k10_0 := (blk_cell b10_ 0).trans rfl; have k10_1 := (blk_cell b10_ 1).trans rfl; have k10_2 := (blk_cell b10_ 2).trans rfl; clear hb_ b9_ b10_)
        go_ret
        exact ⟨congrArg (fun b => Ending.returned (.bool b)) er.out.symm, H2.out.b⟩
      | true =>
      have n2 : (ex.f2 != ey.f2) = false := by rw [bne, hq]; rfl
      have F2 := Aside0.mk hq
      clear hq
      have er := Aside0.mk (show R_ = (listB recB (x.recs.drop (k + 1)) (y.recs.drop (k + 1)) && listB objB x.objects y.objects) by rw [HD.out, recB, F0.out, F1.out, F2.out, F3.out]; rfl)
      go_wp2_with (go_at_call 29; (with_reducible refine (CW.out _ (below_alloc (below_alloc (Below.refl wr.heap.size wr) _) _)).mono ?_); rintro e wn ⟨rfl, hb_⟩; have H2 := Aside0.mk (H.out.on ((below_alloc (below_alloc (Below.refl wr.heap.size wr) _) _).trans (hb_.mono (by simp; omega)))); have b9_ := blk_below (blk_alloc (blk_new wr (Obj.cells #[Value.int IntKind.u16 ex.f0, Value.int IntKind.u16 ex.f1, Value.int IntKind.u16 ex.f2, Value.slice A3 ex.f3.length cA3] 43)) (Obj.cells #[Value.int IntKind.u16 ey.f0, Value.int IntKind.u16 ey.f1, Value.int IntKind.u16 ey.f2, Value.slice B3 ey.f3.length cB3] 43)) hb_; have b10_ : wn.heap[wr.heap.size + 1]? = some (Obj.cells #[Value.int IntKind.u16 ey.f0, Value.int IntKind.u16 ey.f1, Value.int IntKind.u16 ey.f2, Value.slice B3 ey.f3.length cB3] 43) := blk_below (by have := blk_new (wr.alloc (Obj.cells #[Value.int IntKind.u16 ex.f0, Value.int IntKind.u16 ex.f1, Value.int IntKind.u16 ex.f2, Value.slice A3 ex.f3.length cA3] 43)) (Obj.cells #[Value.int IntKind.u16 ey.f0, Value.int IntKind.u16 ey.f1, Value.int IntKind.u16 ey.f2, Value.slice B3 ey.f3.length cB3] 43); simpa using this) hb_; have k9_0 := (blk_cell b9_ 0).trans rfl; have k9_1 := (blk_cell b9_ 1).trans rfl; have k9_2 := (blk_cell b9_ 2).trans rfl; have k10_0 := (blk_cell b10_ 0).trans rfl; have k10_1 := (blk_cell b10_ 1).trans rfl; have k10_2 := (blk_cell b10_ 2).trans rfl; clear hb_ b9_ b10_)
      go_roundw
      case rel => exact ⟨k + 1, by omega, by go_num, er, H2⟩
      case measure => simp [intOf]; omega
    · have RQ2 := Aside0.mk (show R_ = listB objB x.objects y.objects by rw [HL.out, List.drop_eq_nil_of_le (by omega), List.drop_eq_nil_of_le (by rw [← Lrecs.out]; omega)]; rfl)
      clear HL
      go_wp2
      clear px15 py15
      go_loopw [12] (fun i wr2 => ∃ k : Nat, k ≤ x.objects.length ∧ i = .int .i64 k ∧ Aside0 (R_ = listB objB (x.objects.drop k) (y.objects.drop k)) ∧ Aside0 (Hd w (fun W => (True ∧ W.heap[w.heap.size]? = some (.cells cx 30 (0, 0))) ∧ W.heap[w.heap.size + 1]? = some (.cells cy 30 (0, 0))) wr2)) (fun i _ => x.objects.length - (intOf i).toNat)
      case atStart => exact ⟨0, Nat.zero_le _, rfl, ⟨RQ2.out⟩, ⟨H.out⟩⟩
      case round =>
        clear H RQ2
        obtain ⟨k2, hk2, rfl, HL, H⟩ := hrel
        have hll2 : x.objects.length ≤ 9223372036854775807 := RX21.out.1.2.1
        have px21 := (blk_cell H.out.f.1.2 21).trans LX21.out
        have py21 := (blk_cell H.out.f.2 21).trans LY21.out
        by_cases hlt2 : k2 < x.objects.length
        · have hlt3 : k2 < y.objects.length := by rw [← Lobjects.out]; exact hlt2
          have hi1 : (k2 : Int) < (x.objects.length : Int) := by omega
          have hi2 : (k2 : Int) < (y.objects.length : Int) := by omega
          have hi0 : (0 : Int) ≤ (k2 : Int) := by omega
          obtain ⟨adA, A1, cA1, rfl, x0, x1, gA, qA⟩ := at_T69 RX21.out.1 (k2 : Int) (by omega) (by omega)
          obtain ⟨adB, B1, cB1, rfl, y0, y1, gB, qB⟩ := at_T69 RY21.out.1 (k2 : Int) (by omega) (by omega)
          have hd := HL.out
          rw [obj_drop hlt2 hlt3] at hd
          have bA := obj_bytes GX.out hlt2
          have bB := obj_bytes GY.out hlt3
          rw [Int.toNat_natCast] at x0 x1 y0 y1
          generalize rd_T69 x.objects (k2 : Int) = ex at *
          generalize rd_T69 y.objects (k2 : Int) = ey at *
          have X0_ := Aside0.mk x0
          have X1_ := Aside0.mk x1
          have Y0_ := Aside0.mk y0
          have Y1_ := Aside0.mk y1
          have HD := Aside0.mk hd
          have CS := Aside0.mk (fun (W : World) (hb : Below w.heap.size w W) => R01.same_c (l := ex.f1) (m := ey.f1) bA bB (A := A1) (B := B1) (c := cA1) (d := cB1) (W := W) (Kd.C_below qA hb) gA (Kd.C_below qB hb) gB)
          clear x0 x1 y0 y1 hd bA bB qA qB gA gB
          generalize hq : (ex.f1 == ey.f1) = c1 at CS
          have HQ := Aside0.mk hq
          clear hq
          go_upto_region 21 with (fail)
          have Hd0 := Aside0.mk H.out.dr
          refine start_ (n := 14) (S := fun w' => w'.cell? ⟨w.heap.size, 21, none⟩ = some (.slice (some adA) x.objects.length cx21) ∧ w'.cell? ⟨w.heap.size + 1, 21, none⟩ = some (.slice (some adB) y.objects.length cy21) ∧ w'.cell? ⟨(adA.add (k2 * 2)).block, (adA.add (k2 * 2)).off + 1, none⟩ = some (.slice A1 ex.f1.length cA1) ∧ w'.cell? ⟨(adB.add (k2 * 2)).block, (adB.add (k2 * 2)).off + 1, none⟩ = some (.slice B1 ey.f1.length cB1) ∧ Aside0 (Hd w (fun W => (True ∧ W.heap[w.heap.size]? = some (.cells cx 30 (0, 0))) ∧ W.heap[w.heap.size + 1]? = some (.cells cy 30 (0, 0))) w')) (ds := []) (bmr 14 0) (by as_aux_lemma => kernel_rfl) rfl (by as_aux_lemma => kernel_rfl) ⟨((blk_cell Hd0.out.f.1.2 21).trans LX21.out), ((blk_cell Hd0.out.f.2 21).trans LY21.out), ((Hd0.out.b.cell (World.block_lt_of_cell? w _ X1_.out)).trans X1_.out), ((Hd0.out.b.cell (World.block_lt_of_cell? w _ Y1_.out)).trans Y1_.out), Hd0⟩ (fun hHeld => ?_)
          refine with_tabW refs.tab21 refs.bits21 (fun HT_ HW_ => ?_)
          refine pure_ (i := 0) (N := some 224) (v := ?_) (a' := ?_) (bmr 14 1) rfl rfl (any_of HT_.out (by as_aux_lemma => kernel_rfl)) (fun _ _ _ h => h) (Or.inl ⟨by rfl, ?_⟩) ?_ ?_
          rotate_left
          · intro w'
            go_simp
            with_reducible rfl
          rotate_left
          · simp only [Act.put, List.setIfInBounds_toArray, List.set_cons_zero, List.set_cons_succ, i64_w, i32_w]
            rfl
          refine pure_ (i := 2) (N := some 226) (v := ?_) (a' := ?_) (bmr 14 5) rfl rfl (any_of HT_.out (by as_aux_lemma => kernel_rfl)) (fun _ _ _ h => h) (Or.inl ⟨by rfl, ?_⟩) ?_ ?_
          rotate_left
          · intro w'
            go_simp
            with_reducible rfl
          rotate_left
          · simp only [Act.put, List.setIfInBounds_toArray, List.set_cons_zero, List.set_cons_succ, i64_w, i32_w]
            rfl
          refine pure_ (i := 6) (N := some 230) (v := ?_) (a' := ?_) (bmr 14 69) rfl rfl (any_of HT_.out (by as_aux_lemma => kernel_rfl)) (fun _ _ _ h => h) (Or.inl ⟨by rfl, ?_⟩) ?_ ?_
          rotate_left
          · intro w'
            go_simp
            with_reducible rfl
          rotate_left
          · simp only [Act.put, List.setIfInBounds_toArray, List.set_cons_zero, List.set_cons_succ, i64_w, i32_w]
            rfl
          refine pure_ (i := 8) (N := some 232) (v := ?_) (a' := ?_) (bmr 14 325) rfl rfl (any_of HT_.out (by as_aux_lemma => kernel_rfl)) (fun _ _ _ h => h) (Or.inl ⟨by rfl, ?_⟩) ?_ ?_
          rotate_left
          · intro w'
            go_simp
            with_reducible rfl
          rotate_left
          · simp only [Act.put, List.setIfInBounds_toArray, List.set_cons_zero, List.set_cons_succ, i64_w, i32_w]
            rfl
          refine take_ (i := 1) (N := some 225) (v := ?_) (a' := ?_) (bmr 14 327) rfl rfl (take_ofW HT_.out HW_.out (by as_aux_lemma => kernel_rfl)) (fun _ _ _ h => h) (Or.inl ⟨by rfl, ?_⟩) hHeld ?_ ?_
          rotate_left
          · rintro w' ⟨s0, s1, s2, s3, s4⟩
            go_simp
            with_reducible rfl
          rotate_left
          · simp only [Act.put, List.setIfInBounds_toArray, List.set_cons_zero, List.set_cons_succ, i64_w, i32_w]
            rfl
          refine pure_ (i := 3) (N := some 227) (v := ?_) (a' := ?_) (bmr 14 335) rfl rfl (any_of HT_.out (by as_aux_lemma => kernel_rfl)) (fun _ _ _ h => h) (Or.inl ⟨by rfl, ?_⟩) ?_ ?_
          rotate_left
          · intro w'
            go_simp
            with_reducible rfl
          rotate_left
          · simp only [Act.put, List.setIfInBounds_toArray, List.set_cons_zero, List.set_cons_succ, i64_w, i32_w]
            rfl
          refine pure_ (i := 4) (N := some 228) (v := ?_) (a' := ?_) (bmr 14 351) rfl rfl (any_of HT_.out (by as_aux_lemma => kernel_rfl)) (fun _ _ _ h => h) (Or.inl ⟨by rfl, ?_⟩) ?_ ?_
          rotate_left
          · intro w'
            go_simp
            with_reducible rfl
          rotate_left
          · simp only [Act.put, List.setIfInBounds_toArray, List.set_cons_zero, List.set_cons_succ, i64_w, i32_w]
            rfl
          refine take_ (i := 5) (N := some 229) (v := ?_) (a' := ?_) (bmr 14 383) rfl rfl (take_ofW HT_.out HW_.out (by as_aux_lemma => kernel_rfl)) (fun _ _ _ h => h) (Or.inl ⟨by rfl, ?_⟩) hHeld ?_ ?_
          rotate_left
          · rintro w' ⟨s0, s1, s2, s3, s4⟩
            go_simp
            with_reducible rfl
          rotate_left
          · simp only [Act.put, List.setIfInBounds_toArray, List.set_cons_zero, List.set_cons_succ, i64_w, i32_w]
            rfl
          refine take_ (i := 7) (N := some 231) (v := ?_) (a' := ?_) (bmr 14 511) rfl rfl (take_ofW HT_.out HW_.out (by as_aux_lemma => kernel_rfl)) (fun _ _ _ h => h) (Or.inl ⟨by rfl, ?_⟩) hHeld ?_ ?_
          rotate_left
          · rintro w' ⟨s0, s1, s2, s3, s4⟩
            go_simp
            with_reducible rfl
          rotate_left
          · simp only [Act.put, List.setIfInBounds_toArray, List.set_cons_zero, List.set_cons_succ, i64_w, i32_w]
            rfl
          refine pure_ (i := 9) (N := some 233) (v := ?_) (a' := ?_) (bmr 14 1023) rfl rfl (any_of HT_.out (by as_aux_lemma => kernel_rfl)) (fun _ _ _ h => h) (Or.inl ⟨by rfl, ?_⟩) ?_ ?_
          rotate_left
          · intro w'
            go_simp
            with_reducible rfl
          rotate_left
          · simp only [Act.put, List.setIfInBounds_toArray, List.set_cons_zero, List.set_cons_succ, i64_w, i32_w]
            rfl
          refine pure_ (i := 10) (N := some 234) (v := ?_) (a' := ?_) (bmr 14 2047) rfl rfl (any_of HT_.out (by as_aux_lemma => kernel_rfl)) (fun _ _ _ h => h) (Or.inl ⟨by rfl, ?_⟩) ?_ ?_
          rotate_left
          · intro w'
            go_simp
            with_reducible rfl
          rotate_left
          · simp only [Act.put, List.setIfInBounds_toArray, List.set_cons_zero, List.set_cons_succ, i64_w, i32_w]
            rfl
          refine take_ (i := 11) (N := some 235) (v := ?_) (a' := ?_) (bmr 14 4095) rfl rfl (take_ofW HT_.out HW_.out (by as_aux_lemma => kernel_rfl)) (fun _ _ _ h => h) (Or.inl ⟨by rfl, ?_⟩) hHeld ?_ ?_
          rotate_left
          · rintro w' ⟨s0, s1, s2, s3, s4⟩
            go_simp
            with_reducible rfl
          rotate_left
          · simp only [Act.put, List.setIfInBounds_toArray, List.set_cons_zero, List.set_cons_succ, i64_w, i32_w]
            rfl
          refine one_ (i := 12) (N := some 236) (bmr 14 8191) rfl rfl (one_of HT_.out (by as_aux_lemma => kernel_rfl)) (by as_aux_lemma => decide) (fun K hK => ?_)
          refine goes_ Try.func18 (by as_aux_lemma => kernel_rfl) rfl #[.slice A1 ex.f1.length cA1, .slice B1 ey.f1.length cB1] (by rfl) rfl rfl (by simp only [List.map_toArray, List.map_cons, List.map_nil]; rfl) ?_
          with_reducible refine (CS.out _ hHeld.2.2.2.2.out.b).mono ?_
          rintro en w5 ⟨rfl, hb_⟩
          have H5 := Aside0.mk (hHeld.2.2.2.2.out.on hb_)
          clear hb_
          refine ⟨_, rfl, ?_⟩
          refine hK.out _ _ ⟨((blk_cell H5.out.f.1.2 21).trans LX21.out), ((blk_cell H5.out.f.2 21).trans LY21.out), ((H5.out.b.cell (World.block_lt_of_cell? w _ X1_.out)).trans X1_.out), ((H5.out.b.cell (World.block_lt_of_cell? w _ Y1_.out)).trans Y1_.out), H5⟩ (fun hHeld => ?_)
          clear hK K
          refine norm_ (a' := ?_) ?_ ?_
          rotate_left
          · show Act.put _ (some 236) _ = _
            simp only [Act.put, List.setIfInBounds_toArray, List.set_cons_zero, List.set_cons_succ, i64_w, i32_w]
            rfl
          refine pure_ (i := 13) (N := some 13) (v := ?_) (a' := ?_) (bmr 14 16383) rfl rfl (any_of HT_.out (by as_aux_lemma => kernel_rfl)) (fun _ _ _ h => h) (Or.inl ⟨by rfl, ?_⟩) ?_ ?_
          rotate_left
          · intro w'
            go_simp
            with_reducible rfl
          rotate_left
          · simp only [Act.put, List.setIfInBounds_toArray, List.set_cons_zero, List.set_cons_succ, i64_w, i32_w]
            rfl
          refine done_ (done_of HT_.out (by as_aux_lemma => kernel_rfl)) ?_
          clear Hd0 H
          have H := hHeld.2.2.2.2
          clear hHeld
          go_upto_region 22 with (fail)
          have Hd0 := Aside0.mk H.out.dr
          cases c1 with
          | false =>
            have er := Aside0.mk (show R_ = false by rw [HD.out, objB, HQ.out, Bool.and_false, Bool.false_and])
            refine start_ (n := 17) (S := fun w' => w'.cell? ⟨w.heap.size, 21, none⟩ = some (.slice (some adA) x.objects.length cx21) ∧ w'.cell? ⟨w.heap.size + 1, 21, none⟩ = some (.slice (some adB) y.objects.length cy21) ∧ w'.cell? (adA.add (k2 * 2)) = some (.int .u8 ex.f0) ∧ w'.cell? (adB.add (k2 * 2)) = some (.int .u8 ey.f0) ∧ Aside0 (Hd w (fun W => (True ∧ W.heap[w.heap.size]? = some (.cells cx 30 (0, 0))) ∧ W.heap[w.heap.size + 1]? = some (.cells cy 30 (0, 0))) w')) (ds := []) (bmr 17 0) (by as_aux_lemma => kernel_rfl) rfl (by as_aux_lemma => kernel_rfl) ⟨((blk_cell Hd0.out.f.1.2 21).trans LX21.out), ((blk_cell Hd0.out.f.2 21).trans LY21.out), ((Hd0.out.b.cell (World.block_lt_of_cell? w _ X0_.out)).trans X0_.out), ((Hd0.out.b.cell (World.block_lt_of_cell? w _ Y0_.out)).trans Y0_.out), Hd0⟩ (fun hHeld => ?_)
            refine with_tabW refs.tab22 refs.bits22 (fun HT_ HW_ => ?_)
            refine pure_ (i := 0) (N := some 237) (v := ?_) (a' := ?_) (bmr 17 1) rfl rfl (any_of HT_.out (by as_aux_lemma => kernel_rfl)) (fun _ _ _ h => h) (Or.inl ⟨by rfl, ?_⟩) ?_ ?_
            rotate_left
            · intro w'
              go_simp
              with_reducible rfl
            rotate_left
            · simp only [Act.put, List.setIfInBounds_toArray, List.set_cons_zero, List.set_cons_succ, i64_w, i32_w]
              rfl
            refine pure_ (i := 1) (N := some 238) (v := ?_) (a' := ?_) (bmr 17 3) rfl rfl (any_of HT_.out (by as_aux_lemma => kernel_rfl)) (fun _ _ _ h => h) (Or.inl ⟨by rfl, ?_⟩) ?_ ?_
            rotate_left
            · intro w'
              go_simp
              with_reducible rfl
            rotate_left
            · simp only [Act.put, List.setIfInBounds_toArray, List.set_cons_zero, List.set_cons_succ, i64_w, i32_w]
              rfl
            refine pure_ (i := 2) (N := some 239) (v := ?_) (a' := ?_) (bmr 17 7) rfl rfl (any_of HT_.out (by as_aux_lemma => kernel_rfl)) (fun _ _ _ h => h) (Or.inl ⟨by rfl, ?_⟩) ?_ ?_
            rotate_left
            · intro w'
              go_simp
              with_reducible rfl
            rotate_left
            · simp only [Act.put, List.setIfInBounds_toArray, List.set_cons_zero, List.set_cons_succ, i64_w, i32_w]
              rfl
            refine pure_ (i := 3) (N := some 240) (v := undef) (a' := ?_) (bmr 17 15) rfl rfl (any_of HT_.out (by as_aux_lemma => kernel_rfl)) (fun _ _ _ h => h) (Or.inr ⟨by rfl, rfl⟩) ?_ ?_
            rotate_left
            · simp only [Act.put, List.setIfInBounds_toArray, List.set_cons_zero, List.set_cons_succ, i64_w, i32_w]
              rfl
            refine pure_ (i := 4) (N := some 241) (v := undef) (a' := ?_) (bmr 17 31) rfl rfl (any_of HT_.out (by as_aux_lemma => kernel_rfl)) (fun _ _ _ h => h) (Or.inr ⟨by rfl, rfl⟩) ?_ ?_
            rotate_left
            · simp only [Act.put, List.setIfInBounds_toArray, List.set_cons_zero, List.set_cons_succ, i64_w, i32_w]
              rfl
            refine pure_ (i := 5) (N := some 242) (v := undef) (a' := ?_) (bmr 17 63) rfl rfl (any_of HT_.out (by as_aux_lemma => kernel_rfl)) (fun _ _ _ h => h) (Or.inr ⟨by rfl, rfl⟩) ?_ ?_
            rotate_left
            · simp only [Act.put, List.setIfInBounds_toArray, List.set_cons_zero, List.set_cons_succ, i64_w, i32_w]
              rfl
            refine pure_ (i := 6) (N := some 243) (v := undef) (a' := ?_) (bmr 17 127) rfl rfl (any_of HT_.out (by as_aux_lemma => kernel_rfl)) (fun _ _ _ h => h) (Or.inr ⟨by rfl, rfl⟩) ?_ ?_
            rotate_left
            · simp only [Act.put, List.setIfInBounds_toArray, List.set_cons_zero, List.set_cons_succ, i64_w, i32_w]
              rfl
            refine pure_ (i := 7) (N := some 244) (v := undef) (a' := ?_) (bmr 17 255) rfl rfl (any_of HT_.out (by as_aux_lemma => kernel_rfl)) (fun _ _ _ h => h) (Or.inr ⟨by rfl, rfl⟩) ?_ ?_
            rotate_left
            · simp only [Act.put, List.setIfInBounds_toArray, List.set_cons_zero, List.set_cons_succ, i64_w, i32_w]
              rfl
            refine pure_ (i := 8) (N := some 245) (v := undef) (a' := ?_) (bmr 17 511) rfl rfl (any_of HT_.out (by as_aux_lemma => kernel_rfl)) (fun _ _ _ h => h) (Or.inr ⟨by rfl, rfl⟩) ?_ ?_
            rotate_left
            · simp only [Act.put, List.setIfInBounds_toArray, List.set_cons_zero, List.set_cons_succ, i64_w, i32_w]
              rfl
            refine pure_ (i := 9) (N := some 246) (v := undef) (a' := ?_) (bmr 17 1023) rfl rfl (any_of HT_.out (by as_aux_lemma => kernel_rfl)) (fun _ _ _ h => h) (Or.inr ⟨by rfl, rfl⟩) ?_ ?_
            rotate_left
            · simp only [Act.put, List.setIfInBounds_toArray, List.set_cons_zero, List.set_cons_succ, i64_w, i32_w]
              rfl
            refine pure_ (i := 10) (N := some 247) (v := undef) (a' := ?_) (bmr 17 2047) rfl rfl (any_of HT_.out (by as_aux_lemma => kernel_rfl)) (fun _ _ _ h => h) (Or.inr ⟨by rfl, rfl⟩) ?_ ?_
            rotate_left
            · simp only [Act.put, List.setIfInBounds_toArray, List.set_cons_zero, List.set_cons_succ, i64_w, i32_w]
              rfl
            refine pure_ (i := 11) (N := some 248) (v := undef) (a' := ?_) (bmr 17 4095) rfl rfl (any_of HT_.out (by as_aux_lemma => kernel_rfl)) (fun _ _ _ h => h) (Or.inr ⟨by rfl, rfl⟩) ?_ ?_
            rotate_left
            · simp only [Act.put, List.setIfInBounds_toArray, List.set_cons_zero, List.set_cons_succ, i64_w, i32_w]
              rfl
            refine pure_ (i := 12) (N := some 249) (v := undef) (a' := ?_) (bmr 17 8191) rfl rfl (any_of HT_.out (by as_aux_lemma => kernel_rfl)) (fun _ _ _ h => h) (Or.inr ⟨by rfl, rfl⟩) ?_ ?_
            rotate_left
            · simp only [Act.put, List.setIfInBounds_toArray, List.set_cons_zero, List.set_cons_succ, i64_w, i32_w]
              rfl
            refine pure_ (i := 13) (N := some 250) (v := undef) (a' := ?_) (bmr 17 16383) rfl rfl (any_of HT_.out (by as_aux_lemma => kernel_rfl)) (fun _ _ _ h => h) (Or.inr ⟨by rfl, rfl⟩) ?_ ?_
            rotate_left
            · simp only [Act.put, List.setIfInBounds_toArray, List.set_cons_zero, List.set_cons_succ, i64_w, i32_w]
              rfl
            refine pure_ (i := 14) (N := some 251) (v := undef) (a' := ?_) (bmr 17 32767) rfl rfl (any_of HT_.out (by as_aux_lemma => kernel_rfl)) (fun _ _ _ h => h) (Or.inr ⟨by rfl, rfl⟩) ?_ ?_
            rotate_left
            · simp only [Act.put, List.setIfInBounds_toArray, List.set_cons_zero, List.set_cons_succ, i64_w, i32_w]
              rfl
            refine pure_ (i := 15) (N := some 252) (v := undef) (a' := ?_) (bmr 17 65535) rfl rfl (any_of HT_.out (by as_aux_lemma => kernel_rfl)) (fun _ _ _ h => h) (Or.inr ⟨by rfl, rfl⟩) ?_ ?_
            rotate_left
            · simp only [Act.put, List.setIfInBounds_toArray, List.set_cons_zero, List.set_cons_succ, i64_w, i32_w]
              rfl
            refine pure_ (i := 16) (N := some 253) (v := ?_) (a' := ?_) (bmr 17 131071) rfl rfl (any_of HT_.out (by as_aux_lemma => kernel_rfl)) (fun _ _ _ h => h) (Or.inl ⟨by rfl, ?_⟩) ?_ ?_
            rotate_left
            · intro w'
              go_simp
              with_reducible rfl
            rotate_left
            · simp only [Act.put, List.setIfInBounds_toArray, List.set_cons_zero, List.set_cons_succ, i64_w, i32_w]
              rfl
            refine done_ (done_of HT_.out (by as_aux_lemma => kernel_rfl)) ?_
            go_wp2
            go_ret
            exact ⟨congrArg (fun b => Ending.returned (.bool b)) er.out.symm, hHeld.2.2.2.2.out.b⟩
          | true =>
          refine start_ (n := 17) (S := fun w' => w'.cell? ⟨w.heap.size, 21, none⟩ = some (.slice (some adA) x.objects.length cx21) ∧ w'.cell? ⟨w.heap.size + 1, 21, none⟩ = some (.slice (some adB) y.objects.length cy21) ∧ w'.cell? (adA.add (k2 * 2)) = some (.int .u8 ex.f0) ∧ w'.cell? (adB.add (k2 * 2)) = some (.int .u8 ey.f0) ∧ Aside0 (Hd w (fun W => (True ∧ W.heap[w.heap.size]? = some (.cells cx 30 (0, 0))) ∧ W.heap[w.heap.size + 1]? = some (.cells cy 30 (0, 0))) w')) (ds := []) (bmr 17 0) (by as_aux_lemma => kernel_rfl) rfl (by as_aux_lemma => kernel_rfl) ⟨((blk_cell Hd0.out.f.1.2 21).trans LX21.out), ((blk_cell Hd0.out.f.2 21).trans LY21.out), ((Hd0.out.b.cell (World.block_lt_of_cell? w _ X0_.out)).trans X0_.out), ((Hd0.out.b.cell (World.block_lt_of_cell? w _ Y0_.out)).trans Y0_.out), Hd0⟩ (fun hHeld => ?_)
          refine with_tabW refs.tab22 refs.bits22 (fun HT_ HW_ => ?_)
          refine pure_ (i := 0) (N := some 237) (v := ?_) (a' := ?_) (bmr 17 1) rfl rfl (any_of HT_.out (by as_aux_lemma => kernel_rfl)) (fun _ _ _ h => h) (Or.inl ⟨by rfl, ?_⟩) ?_ ?_
          rotate_left
          · intro w'
            go_simp
            with_reducible rfl
          rotate_left
          · simp only [Act.put, List.setIfInBounds_toArray, List.set_cons_zero, List.set_cons_succ, i64_w, i32_w]
            rfl
          refine pure_ (i := 1) (N := some 238) (v := ?_) (a' := ?_) (bmr 17 3) rfl rfl (any_of HT_.out (by as_aux_lemma => kernel_rfl)) (fun _ _ _ h => h) (Or.inl ⟨by rfl, ?_⟩) ?_ ?_
          rotate_left
          · intro w'
            go_simp
            with_reducible rfl
          rotate_left
          · simp only [Act.put, List.setIfInBounds_toArray, List.set_cons_zero, List.set_cons_succ, i64_w, i32_w]
            rfl
          refine pure_ (i := 2) (N := some 239) (v := ?_) (a' := ?_) (bmr 17 7) rfl rfl (any_of HT_.out (by as_aux_lemma => kernel_rfl)) (fun _ _ _ h => h) (Or.inl ⟨by rfl, ?_⟩) ?_ ?_
          rotate_left
          · intro w'
            go_simp
            with_reducible rfl
          rotate_left
          · simp only [Act.put, List.setIfInBounds_toArray, List.set_cons_zero, List.set_cons_succ, i64_w, i32_w]
            rfl
          refine pure_ (i := 3) (N := some 240) (v := ?_) (a' := ?_) (bmr 17 15) rfl rfl (any_of HT_.out (by as_aux_lemma => kernel_rfl)) (fun _ _ _ h => h) (Or.inl ⟨by rfl, ?_⟩) ?_ ?_
          rotate_left
          · intro w'
            go_simp
            with_reducible rfl
          rotate_left
          · simp only [Act.put, List.setIfInBounds_toArray, List.set_cons_zero, List.set_cons_succ, i64_w, i32_w]
            rfl
          refine pure_ (i := 5) (N := some 242) (v := ?_) (a' := ?_) (bmr 17 47) rfl rfl (any_of HT_.out (by as_aux_lemma => kernel_rfl)) (fun _ _ _ h => h) (Or.inl ⟨by rfl, ?_⟩) ?_ ?_
          rotate_left
          · intro w'
            go_simp
            with_reducible rfl
          rotate_left
          · simp only [Act.put, List.setIfInBounds_toArray, List.set_cons_zero, List.set_cons_succ, i64_w, i32_w]
            rfl
          refine pure_ (i := 9) (N := some 246) (v := ?_) (a' := ?_) (bmr 17 559) rfl rfl (any_of HT_.out (by as_aux_lemma => kernel_rfl)) (fun _ _ _ h => h) (Or.inl ⟨by rfl, ?_⟩) ?_ ?_
          rotate_left
          · intro w'
            go_simp
            with_reducible rfl
          rotate_left
          · simp only [Act.put, List.setIfInBounds_toArray, List.set_cons_zero, List.set_cons_succ, i64_w, i32_w]
            rfl
          refine pure_ (i := 11) (N := some 248) (v := ?_) (a' := ?_) (bmr 17 2607) rfl rfl (any_of HT_.out (by as_aux_lemma => kernel_rfl)) (fun _ _ _ h => h) (Or.inl ⟨by rfl, ?_⟩) ?_ ?_
          rotate_left
          · intro w'
            go_simp
            with_reducible rfl
          rotate_left
          · simp only [Act.put, List.setIfInBounds_toArray, List.set_cons_zero, List.set_cons_succ, i64_w, i32_w]
            rfl
          refine take_ (i := 4) (N := some 241) (v := ?_) (a' := ?_) (bmr 17 2623) rfl rfl (take_ofW HT_.out HW_.out (by as_aux_lemma => kernel_rfl)) (fun _ _ _ h => h) (Or.inl ⟨by rfl, ?_⟩) hHeld ?_ ?_
          rotate_left
          · rintro w' ⟨s0, s1, s2, s3, s4⟩
            go_simp
            with_reducible rfl
          rotate_left
          · simp only [Act.put, List.setIfInBounds_toArray, List.set_cons_zero, List.set_cons_succ, i64_w, i32_w]
            rfl
          refine pure_ (i := 6) (N := some 243) (v := ?_) (a' := ?_) (bmr 17 2687) rfl rfl (any_of HT_.out (by as_aux_lemma => kernel_rfl)) (fun _ _ _ h => h) (Or.inl ⟨by rfl, ?_⟩) ?_ ?_
          rotate_left
          · intro w'
            go_simp
            with_reducible rfl
          rotate_left
          · simp only [Act.put, List.setIfInBounds_toArray, List.set_cons_zero, List.set_cons_succ, i64_w, i32_w]
            rfl
          refine pure_ (i := 7) (N := some 244) (v := ?_) (a' := ?_) (bmr 17 2815) rfl rfl (any_of HT_.out (by as_aux_lemma => kernel_rfl)) (fun _ _ _ h => h) (Or.inl ⟨by rfl, ?_⟩) ?_ ?_
          rotate_left
          · intro w'
            go_simp
            with_reducible rfl
          rotate_left
          · simp only [Act.put, List.setIfInBounds_toArray, List.set_cons_zero, List.set_cons_succ, i64_w, i32_w]
            rfl
          refine take_ (i := 8) (N := some 245) (v := ?_) (a' := ?_) (bmr 17 3071) rfl rfl (take_ofW HT_.out HW_.out (by as_aux_lemma => kernel_rfl)) (fun _ _ _ h => h) (Or.inl ⟨by rfl, ?_⟩) hHeld ?_ ?_
          rotate_left
          · rintro w' ⟨s0, s1, s2, s3, s4⟩
            go_simp
            with_reducible rfl
          rotate_left
          · simp only [Act.put, List.setIfInBounds_toArray, List.set_cons_zero, List.set_cons_succ, i64_w, i32_w]
            rfl
          refine take_ (i := 10) (N := some 247) (v := ?_) (a' := ?_) (bmr 17 4095) rfl rfl (take_ofW HT_.out HW_.out (by as_aux_lemma => kernel_rfl)) (fun _ _ _ h => h) (Or.inl ⟨by rfl, ?_⟩) hHeld ?_ ?_
          rotate_left
          · rintro w' ⟨s0, s1, s2, s3, s4⟩
            go_simp
            with_reducible rfl
          rotate_left
          · simp only [Act.put, List.setIfInBounds_toArray, List.set_cons_zero, List.set_cons_succ, i64_w, i32_w]
            rfl
          refine pure_ (i := 12) (N := some 249) (v := ?_) (a' := ?_) (bmr 17 8191) rfl rfl (any_of HT_.out (by as_aux_lemma => kernel_rfl)) (fun _ _ _ h => h) (Or.inl ⟨by rfl, ?_⟩) ?_ ?_
          rotate_left
          · intro w'
            go_simp
            with_reducible rfl
          rotate_left
          · simp only [Act.put, List.setIfInBounds_toArray, List.set_cons_zero, List.set_cons_succ, i64_w, i32_w]
            rfl
          refine pure_ (i := 13) (N := some 250) (v := ?_) (a' := ?_) (bmr 17 16383) rfl rfl (any_of HT_.out (by as_aux_lemma => kernel_rfl)) (fun _ _ _ h => h) (Or.inl ⟨by rfl, ?_⟩) ?_ ?_
          rotate_left
          · intro w'
            go_simp
            with_reducible rfl
          rotate_left
          · simp only [Act.put, List.setIfInBounds_toArray, List.set_cons_zero, List.set_cons_succ, i64_w, i32_w]
            rfl
          refine take_ (i := 14) (N := some 251) (v := ?_) (a' := ?_) (bmr 17 32767) rfl rfl (take_ofW HT_.out HW_.out (by as_aux_lemma => kernel_rfl)) (fun _ _ _ h => h) (Or.inl ⟨by rfl, ?_⟩) hHeld ?_ ?_
          rotate_left
          · rintro w' ⟨s0, s1, s2, s3, s4⟩
            go_simp
            with_reducible rfl
          rotate_left
          · simp only [Act.put, List.setIfInBounds_toArray, List.set_cons_zero, List.set_cons_succ, i64_w, i32_w]
            rfl
          refine pure_ (i := 15) (N := some 252) (v := ?_) (a' := ?_) (bmr 17 65535) rfl rfl (any_of HT_.out (by as_aux_lemma => kernel_rfl)) (fun _ _ _ h => h) (Or.inl ⟨by rfl, ?_⟩) ?_ ?_
          rotate_left
          · intro w'
            go_simp
            with_reducible rfl
          rotate_left
          · simp only [Act.put, List.setIfInBounds_toArray, List.set_cons_zero, List.set_cons_succ, i64_w, i32_w]
            rfl
          refine pure_ (i := 16) (N := some 253) (v := ?_) (a' := ?_) (bmr 17 131071) rfl rfl (any_of HT_.out (by as_aux_lemma => kernel_rfl)) (fun _ _ _ h => h) (Or.inl ⟨by rfl, ?_⟩) ?_ ?_
          rotate_left
          · intro w'
            go_simp
            with_reducible rfl
          rotate_left
          · simp only [Act.put, List.setIfInBounds_toArray, List.set_cons_zero, List.set_cons_succ, i64_w, i32_w]
            rfl
          refine done_ (done_of HT_.out (by as_aux_lemma => kernel_rfl)) ?_
          cases hq0 : (ex.f0 == ey.f0) with
          | false =>
            have hn : (ex.f0 != ey.f0) = true := by rw [bne, hq0]; rfl
            have er := Aside0.mk (show R_ = false by rw [HD.out, objB, hq0, Bool.false_and, Bool.false_and])
            clear hq0
            go_wp2
            go_ret
            exact ⟨congrArg (fun b => Ending.returned (.bool b)) er.out.symm, hHeld.2.2.2.2.out.b⟩
          | true =>
          have hn : (ex.f0 != ey.f0) = false := by rw [bne, hq0]; rfl
          have er := Aside0.mk (show R_ = listB objB (x.objects.drop (k2 + 1)) (y.objects.drop (k2 + 1)) by rw [HD.out, objB, hq0, HQ.out]; rfl)
          clear hq0
          go_wp2
          go_roundw
          case rel => exact ⟨k2 + 1, by omega, by go_num, er, hHeld.2.2.2.2⟩
          case measure => simp [intOf]; omega
        · have er := Aside0.mk (show R_ = true by rw [HL.out, List.drop_eq_nil_of_le (by omega), List.drop_eq_nil_of_le (by rw [← Lobjects.out]; omega)]; rfl)
          go_wp2
          go_ret
          exact ⟨congrArg (fun b => Ending.returned (.bool b)) er.out.symm, H.out.b⟩
theorem refsame_msg {cx cy : Array Value} {x y : Msg} {w : World} (hx : IsMsg w cx x) (hy : IsMsg w cy y) : Calls Try.prog 14 #[.agg cx, .agg cy] w fun e w' => e = .returned (.bool (sameB x y)) ∧ Below w.heap.size w w' := by
  have es : sameB x y = (plainB x y && restB x y) := by unfold sameB restB; simp only [Bool.and_assoc]
  rw [es]
  cases hp : plainB x y with
  | false => exact refsame_ne hx hy hp
  | true => exact refsame_go hx hy hp
end Go.Proofs.Ytdjeekpgcjcffaa.Same
end
section
namespace Go.Proofs.Ytdjeekpgcjcffaa.Same
open Go.RowKit Go.Proofs.Ytdjeekpgcjcffaa.P Go.Proofs.Ytdjeekpgcjcffaa.E Go.Proofs.YtdjeekpgcjcffaaW.PrintWords Go.Proofs.YtdjeekpgcjcffaaW.PrintLast Go.Proofs.YtdjeekpgcjcffaaW.PrintMore
theorem listB_refl {α : Type} {f : α → α → Bool} (h : ∀ x, f x x = true) : ∀ l : List α, listB f l l = true
  | [] => rfl
  | x :: xs => by simp only [listB, h x, listB_refl h xs, Bool.and_self]
theorem listB_eq {α : Type} {f : α → α → Bool} (h : ∀ x y, f x y = true → x = y) : ∀ l m : List α, listB f l m = true → l = m
  | [], [], _ => rfl
  | x :: xs, y :: ys, e => by
    simp only [listB, Bool.and_eq_true] at e
    rw [h x y e.1, listB_eq h xs ys e.2]
  | [], _ :: _, e => by cases e
  | _ :: _, [], e => by cases e
theorem rec_refl (x) : recB x x = true := by simp [recB]
theorem obj_refl (x) : objB x x = true := by simp [objB]
theorem rec_eq (x y) (h : recB x y = true) : x = y := by
  unfold recB at h
  simp only [Bool.and_eq_true, beq_iff_eq] at h
  obtain ⟨⟨⟨h0, h1⟩, h2⟩, h3⟩ := h
  cases x; cases y; simp_all
theorem obj_eq (x y) (h : objB x y = true) : x = y := by
  unfold objB at h
  simp only [Bool.and_eq_true, beq_iff_eq] at h
  cases x; cases y; simp_all
theorem same_refl (x : Msg) : sameB x x = true := by
  unfold sameB plainB
  simp only [beq_self_eq_true, Bool.true_and, listB_refl rec_refl, listB_refl obj_refl]
theorem same_eq (x y : Msg) : sameB x y = true ↔ x = y := by
  constructor
  · intro h
    unfold sameB plainB at h
    simp only [Bool.and_eq_true, beq_iff_eq] at h
    obtain ⟨⟨⟨⟨⟨⟨⟨⟨⟨⟨⟨⟨⟨⟨⟨⟨⟨⟨⟨⟨⟨h0, h1⟩, h2⟩, h3⟩, h4⟩, h5⟩, h6⟩, h7⟩, h8⟩, h9⟩, h10⟩, h11⟩, h12⟩, h13⟩, h14⟩, h15⟩, h16⟩, k0⟩, k1⟩, k2⟩, k3⟩, k4⟩ := h
    have e3 := listB_eq rec_eq _ _ k3
    have e4 := listB_eq obj_eq _ _ k4
    cases x; cases y; simp_all
  · rintro rfl
    exact same_refl x
end Go.Proofs.Ytdjeekpgcjcffaa.Same
end
section
namespace Go.Proofs.Ytdjeekpgcjcffaa.Same
open Go.RowKit Go.Proofs.Ytdjeekpgcjcffaa.P Go.Proofs.Ytdjeekpgcjcffaa.E Go.Proofs.YtdjeekpgcjcffaaW.PrintWords Go.Proofs.YtdjeekpgcjcffaaW.PrintLast Go.Proofs.YtdjeekpgcjcffaaW.PrintMore
def fewB (m : Msg) : Bool := decide (m.words.length ≤ 300 ∧ m.bits.length ≤ 2500 ∧ m.data.length ≤ 300 ∧ m.recs.length ≤ 50 ∧ m.objects.length ≤ 100) && ((m.recs.all fun o => decide (o.f3.length ≤ 200)) && (m.objects.all fun o => decide (o.f1.length ≤ 300)))
theorem few_no {cx : Array Value} {m : Msg} {w : World} (hm : IsMsg w cx m) (h : ¬ (m.words.length ≤ 300 ∧ m.bits.length ≤ 2500 ∧ m.data.length ≤ 300 ∧ m.recs.length ≤ 50 ∧ m.objects.length ≤ 100)) : Calls Try.prog 15 #[.agg cx] w fun e w' => e = .returned (.bool false) ∧ Below w.heap.size w w' := by
  obtain ⟨A12, c12, A13, c13, A14, c14, A15, c15, A21, c21, ⟨l12, l13, l14, l15, l21⟩, r12, r13, r14, r15, r21⟩ := hm.lists
  have hb := blk_new w (.cells cx 30 (0, 0))
  have k12 := (blk_cell hb 12).trans l12
  have k13 := (blk_cell hb 13).trans l13
  have k14 := (blk_cell hb 14).trans l14
  have k15 := (blk_cell hb 15).trans l15
  have k21 := (blk_cell hb 21).trans l21
  have R15 := Aside0.mk r15
  have R21 := Aside0.mk r21
  have HB := Aside0.mk hb
  have HW := Aside0.mk (below_alloc (Below.refl w.heap.size w) (.cells cx 30 (0, 0)))
  have hu1 := Try.underlying30
  clear l12 l13 l14 l15 l21 r12 r13 r14 r15 r21 hb
  have H := Aside0.mk h
  clear hm h
  go_enter Try.func15, Try.ntmps15
  go_upto_region 2 with (fail)
  all_goals first
    | (go_wp2; go_ret; exact ⟨rfl, HW.out⟩)
    | (exfalso; have := H.out; omega)
theorem drop_all {α : Type} (p : α → Bool) {l : List α} {i : Nat} (h : i < l.length) (d : α) : (l.drop i).all p = (p (l.getD i d) && (l.drop (i + 1)).all p) := by
  rw [drop_cons h d]
  rfl
theorem few_go {cx : Array Value} {m : Msg} {w : World} (hm : IsMsg w cx m) (h0 : m.words.length ≤ 300) (h1 : m.bits.length ≤ 2500) (h2 : m.data.length ≤ 300) (h3 : m.recs.length ≤ 50) (h4 : m.objects.length ≤ 100) : Calls Try.prog 15 #[.agg cx] w fun e w' => e = .returned (.bool ((m.recs.all fun o => decide (o.f3.length ≤ 200)) && (m.objects.all fun o => decide (o.f1.length ≤ 300)))) ∧ Below w.heap.size w w' := by
  obtain ⟨A12, c12, A13, c13, A14, c14, A15, c15, A21, c21, ⟨l12, l13, l14, l15, l21⟩, r12, r13, r14, r15, r21⟩ := hm.lists
  have hb := blk_new w (.cells cx 30 (0, 0))
  have k12 := (blk_cell hb 12).trans l12
  have k13 := (blk_cell hb 13).trans l13
  have k14 := (blk_cell hb 14).trans l14
  have k15 := (blk_cell hb 15).trans l15
  have k21 := (blk_cell hb 21).trans l21
  have R15 := Aside0.mk r15
  have R21 := Aside0.mk r21
  have HB := Aside0.mk hb
  have HW := Aside0.mk (below_alloc (Below.refl w.heap.size w) (.cells cx 30 (0, 0)))
  have hu1 := Try.underlying30
  clear l12 l13 l14 l15 l21 r12 r13 r14 r15 r21 hb
  have e0 : decide ((m.words.length : Int) > 300) = false := decide_eq_false (by omega)
  have e0_ : decide ((300 : Int) < (m.words.length : Int)) = false := decide_eq_false (by omega)
  have e1 : decide ((m.bits.length : Int) > 2500) = false := decide_eq_false (by omega)
  have e1_ : decide ((2500 : Int) < (m.bits.length : Int)) = false := decide_eq_false (by omega)
  have e2 : decide ((m.data.length : Int) > 300) = false := decide_eq_false (by omega)
  have e2_ : decide ((300 : Int) < (m.data.length : Int)) = false := decide_eq_false (by omega)
  have e3 : decide ((m.recs.length : Int) > 50) = false := decide_eq_false (by omega)
  have e3_ : decide ((50 : Int) < (m.recs.length : Int)) = false := decide_eq_false (by omega)
  have e4 : decide ((m.objects.length : Int) > 100) = false := decide_eq_false (by omega)
  have e4_ : decide ((100 : Int) < (m.objects.length : Int)) = false := decide_eq_false (by omega)
  have HR := Aside0.mk h3
  have HO := Aside0.mk h4
  have b3 : (m.recs.length : Int) ≤ 50 := by omega
  have b4 : (m.objects.length : Int) ≤ 100 := by omega
  clear hm h0 h1 h2 h3 h4
  generalize hP : (m.recs.all fun o => decide (o.f3.length ≤ 200)) = P
  generalize hO : (m.objects.all fun o => decide (o.f1.length ≤ 300)) = O
  have HP := Aside0.mk hP
  have HOO := Aside0.mk hO
  clear hP hO
  go_enter Try.func15, Try.ntmps15
  go_wp2
  go_loopw [3] (fun i wr => ∃ k : Nat, k ≤ m.recs.length ∧ i = .int .i64 k ∧ Aside0 (P = (m.recs.drop k).all fun o => decide (o.f3.length ≤ 200)) ∧ wr = w.alloc (.cells cx 30 (0, 0))) (fun i _ => m.recs.length - (intOf i).toNat)
  case atStart => exact ⟨0, Nat.zero_le _, rfl, ⟨HP.out.symm⟩, rfl⟩
  case round =>
    obtain ⟨k, hk, rfl, HL, rfl⟩ := hrel
    by_cases hlt : k < m.recs.length
    · obtain ⟨ad, A3, cA3, rfl, x0, x1, x2, x3, gA, qA⟩ := at_T43 R15.out.1 (k : Int) (by omega) (by omega)
      rw [Int.toNat_natCast] at x3
      have y3 := (HW.out.cell (World.block_lt_of_cell? w _ x3)).trans x3
      have e1 := drop_all (fun o : S43 => decide (o.f3.length ≤ 200)) hlt z43
      rw [← HL.out] at e1
      have e2 : rd_T43 m.recs (k : Int) = m.recs.getD k z43 := by unfold rd_T43; rw [Int.toNat_natCast]
      rw [e2] at y3 qA gA
      generalize (m.recs.getD k z43).f3 = f3 at *
      have qL : f3.length ≤ 9223372036854775807 := qA.2.1
      clear x0 x1 x2 x3 e2 qA gA
      by_cases hf : f3.length ≤ 200
      · have d1 : decide ((f3.length : Int) > 200) = false := decide_eq_false (by omega)
        have d2 : decide ((200 : Int) < (f3.length : Int)) = false := decide_eq_false (by omega)
        rw [decide_eq_true hf, Bool.true_and] at e1
        have E1 := Aside0.mk e1
        clear e1 hf
        go_wp2
        go_roundw
        case rel => exact ⟨k + 1, by omega, by go_num, E1, by first | rfl | trivial⟩
        case measure => simp [intOf]; omega
      · have d1 : decide ((f3.length : Int) > 200) = true := decide_eq_true (by omega)
        have d2 : decide ((200 : Int) < (f3.length : Int)) = true := decide_eq_true (by omega)
        rw [decide_eq_false hf, Bool.false_and] at e1
        have E1 := Aside0.mk e1
        clear e1 hf
        go_wp2
        go_ret
        exact ⟨congrArg (fun b => Ending.returned (.bool b)) (show false = (P && O) by rw [E1.out]; rfl), HW.out⟩
    · have ek : P = true := by rw [HL.out, List.drop_eq_nil_of_le (by omega)]; rfl
      have EK := Aside0.mk ek
      clear ek
      go_wp2
      go_loopw [4] (fun i wr => ∃ k : Nat, k ≤ m.objects.length ∧ i = .int .i64 k ∧ Aside0 (O = (m.objects.drop k).all fun o => decide (o.f1.length ≤ 300)) ∧ wr = w.alloc (.cells cx 30 (0, 0))) (fun i _ => m.objects.length - (intOf i).toNat)
      case atStart => exact ⟨0, Nat.zero_le _, rfl, ⟨HOO.out.symm⟩, rfl⟩
      case round =>
        obtain ⟨j, hj, rfl, HL2, rfl⟩ := hrel
        by_cases hlt2 : j < m.objects.length
        · obtain ⟨ad, A1, cA1, rfl, x0, x1, gA, qA⟩ := at_T69 R21.out.1 (j : Int) (by omega) (by omega)
          rw [Int.toNat_natCast] at x1
          have y1 := (HW.out.cell (World.block_lt_of_cell? w _ x1)).trans x1
          have e1 := drop_all (fun o : S69 => decide (o.f1.length ≤ 300)) hlt2 z69
          rw [← HL2.out] at e1
          have e2 : rd_T69 m.objects (j : Int) = m.objects.getD j z69 := by unfold rd_T69; rw [Int.toNat_natCast]
          rw [e2] at y1 qA gA
          generalize (m.objects.getD j z69).f1 = f1 at *
          have qL : f1.length ≤ 9223372036854775807 := qA.2.1
          clear x0 x1 e2 qA gA
          by_cases hf : f1.length ≤ 300
          · have d1 : decide ((f1.length : Int) > 300) = false := decide_eq_false (by omega)
            have d2 : decide ((300 : Int) < (f1.length : Int)) = false := decide_eq_false (by omega)
            rw [decide_eq_true hf, Bool.true_and] at e1
            have E1 := Aside0.mk e1
            clear e1 hf
            go_wp2
            go_roundw
            case rel => exact ⟨j + 1, by omega, by go_num, E1, by first | rfl | trivial⟩
            case measure => simp [intOf]; omega
          · have d1 : decide ((f1.length : Int) > 300) = true := decide_eq_true (by omega)
            have d2 : decide ((300 : Int) < (f1.length : Int)) = true := decide_eq_true (by omega)
            rw [decide_eq_false hf, Bool.false_and] at e1
            have E1 := Aside0.mk e1
            clear e1 hf
            go_wp2
            go_ret
            exact ⟨congrArg (fun b => Ending.returned (.bool b)) (show false = (P && O) by rw [E1.out, Bool.and_false]), HW.out⟩
        · have eo : O = true := by rw [HL2.out, List.drop_eq_nil_of_le (by omega)]; rfl
          have EO := Aside0.mk eo
          clear eo
          go_wp2
          go_ret
          exact ⟨congrArg (fun b => Ending.returned (.bool b)) (show true = (P && O) by rw [EK.out, EO.out]; rfl), HW.out⟩
theorem few_msg {cx : Array Value} {x : Msg} {w : World} (hx : IsMsg w cx x) : Calls Try.prog 15 #[.agg cx] w fun e w' => e = .returned (.bool (fewB x)) ∧ Below w.heap.size w w' := by
  unfold fewB
  by_cases h : x.words.length ≤ 300 ∧ x.bits.length ≤ 2500 ∧ x.data.length ≤ 300 ∧ x.recs.length ≤ 50 ∧ x.objects.length ≤ 100
  · rw [decide_eq_true h, Bool.true_and]
    exact few_go hx h.1 h.2.1 h.2.2.1 h.2.2.2.1 h.2.2.2.2
  · rw [decide_eq_false h, Bool.false_and]
    exact few_no hx h
end Go.Proofs.Ytdjeekpgcjcffaa.Same
end
section
namespace Go.Proofs.Ytdjeekpgcjcffaa.Same
open Go.RowKit Go.Proofs.Ytdjeekpgcjcffaa.P Go.Proofs.Ytdjeekpgcjcffaa.E Go.Proofs.YtdjeekpgcjcffaaW.PrintWords Go.Proofs.YtdjeekpgcjcffaaW.PrintLast Go.Proofs.YtdjeekpgcjcffaaW.PrintMore
structure Two (w : World) (cx cy : Array Value) (t : TypeId) (W : World) : Prop where
  x : W.heap[w.heap.size]? = some (.cells cx t (0, 0))
  y : W.heap[w.heap.size + 1]? = some (.cells cy t (0, 0))
  b : Below w.heap.size w W
end Go.Proofs.Ytdjeekpgcjcffaa.Same
end
section
namespace Go.Proofs.Ytdjeekpgcjcffaa.Same
open Go.RowKit Go.Proofs.Ytdjeekpgcjcffaa.P Go.Proofs.Ytdjeekpgcjcffaa.E Go.Proofs.YtdjeekpgcjcffaaW.PrintWords Go.Proofs.YtdjeekpgcjcffaaW.PrintLast Go.Proofs.YtdjeekpgcjcffaaW.PrintMore
structure Up1 (g : Nat) (w w' : World) : Prop where
  os : w'.os = w.os
  tape : w'.tape = w.tape
  output : w'.output = w.output
  kept : Kept w w' (fun k => k = g)
theorem Up1.below {g B : Nat} {w w' : World} (h : Up1 g w w') (hB : B ≤ g) (hs : B ≤ w.heap.size) : Below B w w' := ⟨h.os, h.tape, h.output, h.kept.1, fun k hk => h.kept.2 k (by omega) (by omega)⟩
theorem setCells_blk {w : World} {g : Nat} {cur cx : Array Value} {t : TypeId} (hb : w.heap[g]? = some (.cells cur t (0, 0))) (hs : cur.size = cx.size) : (w.setCells g 0 cx.toList).heap[g]? = some (.cells cx t (0, 0)) ∧ Up1 g w (w.setCells g 0 cx.toList) := by
  obtain ⟨cur', h1, h2, h3⟩ := setCells_row cx.toList 0 w cur hb (by simp [hs])
  have e : cur' = cx := by
    apply Array.ext'
    rw [h3]
    simp [hs]
  rw [e] at h1
  obtain ⟨a1, a2, a3, a4⟩ := setCells_same g cx.toList 0 w
  exact ⟨h1, a1, a2, a3, by rw [a4]; exact Nat.le_refl _, fun k hk hn => setCells_far cx.toList 0 k hn⟩
theorem run_store_row {P : Program} {w : World} {g : Nat} {cur cx : Array Value} {t ty : TypeId} (hb : w.heap[g]? = some (.cells cur t (0, 0))) (hs : cur.size = cx.size) (hi : (P.info? ty).map (·.size) = some cx.size) (h1 : cx.all (·.oneCell') = true) :
    (Instr.storeAt ty (.pointer (some ⟨g, 0, none⟩)) (.agg cx)).run P w = .ok () (w.setCells g 0 cx.toList) := by
  refine run_storeAt_mid w g 0 ty cx (fun j hj => ?_) hi h1
  rw [Nat.zero_add]
  have := blk_cell hb j
  have hj' : j < cur.size := by omega
  exact ⟨by rw [this]; simp [hj'], blk_frozen hb j⟩
theorem wpList_store_row {P : Program} {ops : Array Oper} {rest : List Oper} {op : Oper} {a : Act} {w : World} {Q : Exit → Act → World → Prop} (ty : TypeId) (x y : Operand) {g : Nat} {cur cx : Array Value} {t : TypeId}
    (ho : op.op = .store ty x y) (hgd : op.guard = none) (hx : a.eval x = .pointer (some ⟨g, 0, none⟩)) (hy : a.eval y = .agg cx) (hb : w.heap[g]? = some (.cells cur t (0, 0))) (hs : cur.size = cx.size) (hi : (P.info? ty).map (·.size) = some cx.size) (h1 : cx.all (·.oneCell') = true)
    (h : ∀ w', w'.heap[g]? = some (.cells cx t (0, 0)) → Up1 g w w' → wpList P ops Q rest (a.put op.dst undef) w') : wpList P ops Q (op :: rest) a w := by
  refine wpList_plain hgd fun _ hK => ?_
  unfold Oper.wp execOp
  have hr := run_store_row (P := P) (ty := ty) hb hs hi h1
  simp only [ho, hx, hy, hr, Sem.run_bind, Sem.run_pure, Result.andThen_ok]
  obtain ⟨b1, b2⟩ := setCells_blk hb hs
  exact hK _ _ (h _ b1 b2)
theorem gate_op {P : Program} {ops : Array Oper} {rest : List Oper} {op : Oper} {a : Act} {w : World} {Q : Exit → Act → World → Prop} {u : Op} (_ : op.op = u) (h : wpList P ops Q (op :: rest) a w) : wpList P ops Q (op :: rest) a w := h
def zeroM : Msg := ⟨0, 0, 0, 0, 0, 0, 0, 0, 0, 0, 0, 0, [], [], [], [], 0, 0, 0, 0, 0, []⟩
def zeroC : Array Value := #[.int .u8 0, .int .u8 0, .int .u16 0, .int .u16 0, .int .u16 0, .int .u16 0, .int .u16 0, .int .u16 0, .int .u16 0, .int .u16 0, .int .u16 0, .int .u16 0, .slice none 0 0, .slice none 0 0, .slice none 0 0, .slice none 0 0, .int .u8 0, .int .u8 0, .int .u8 0, .int .u8 0, .int .u8 0, .slice none 0 0]
theorem zero_good : goodM zeroM := by
  refine ⟨by decide, ?_, ?_, ?_⟩
  · intro x h; cases h
  · intro x h; cases h
  · intro x h; cases h
theorem nil_row {α : Type} (d : Kd α) (w : World) : Kd.C d w none ([] : List α).length [] ∧ ([] : List α).length ≤ 0 := ⟨Kd.C_nil d w, Nat.le_refl _⟩
theorem zero_is (w : World) : IsMsg w zeroC zeroM := by
  refine ⟨none, 0, none, 0, none, 0, none, 0, none, 0, ?_, zero_good, ?_⟩
  · rfl
  · exact ⟨nil_row _ w, nil_row _ w, nil_row _ w, nil_row _ w, nil_row _ w⟩
theorem run_alloc_msg (ev : Operand → Value) (o : Oper) (ho : o.op = .alloc 30) (W : World) : (execOp ev o).run Try.prog W = .ok (.value (.pointer (some ⟨W.heap.size, 0, none⟩))) (W.alloc (.cells zeroC 30 (0, 0))) := by
  unfold execOp
  rw [ho]
  kernel_rfl
theorem ev_alloc {ops : Array Oper} {rest : List Oper} {o : Oper} {a : Act} {w : World} {Q : Exit → Act → World → Prop} (ho : o.op = .alloc 30) (hgd : o.guard = none)
    (h : ∀ g w1, g = w.heap.size → w1.heap[g]? = some (.cells zeroC 30 (0, 0)) → Below w.heap.size w w1 → wpList Try.prog ops Q rest (a.put o.dst (.pointer (some ⟨g, 0, none⟩))) w1) : wpList Try.prog ops Q (o :: rest) a w :=
  Kd.event_run hgd (run_alloc_msg a.eval o ho w) (h _ _ rfl (blk_new w _) (below_alloc (Below.refl _ _) _))
theorem ev_build {P : Program} {ops : Array Oper} {rest : List Oper} {o : Oper} {a : Act} {w : World} {Q : Exit → Act → World → Prop} (cs : Array Value) (hgd : o.guard = none) (hrun : (execOp a.eval o).run P w = .ok (.value (.agg cs)) w)
    (h : ∀ cx, cx = cs → wpList P ops Q rest (a.put o.dst (.agg cx)) w) : wpList P ops Q (o :: rest) a w := Kd.event_run hgd hrun (h _ rfl)
theorem C_block (q : IntKind) (xs : List Int) {w : World} {g : Nat} {t : TypeId} (hb : w.heap[g]? = some (.cells (xs.map (Value.int q)).toArray t (0, 0))) (hl : xs.length ≤ 1000000) : Kd.C (Kd.int q) w (some ⟨g, 0, none⟩) xs.length xs := by
  refine Kd.C_of_reads (d := 0) ⟨rfl, by omega, fun _ => ⟨_, rfl, fun j hj => ?_⟩⟩
  have e : (⟨g, 0, none⟩ : Addr).add j = ⟨g, j, none⟩ := by unfold Addr.add; split <;> simp_all
  rw [e, blk_cell hb j]
  simp [hj]
theorem ev_lit {P : Program} {ops : Array Oper} {rest : List Oper} {o : Oper} {a : Act} {w : World} {Q : Exit → Act → World → Prop} (q : IntKind) (xs : List Int) (t : TypeId) (hgd : o.guard = none)
    (hrun : (execOp a.eval o).run P w = .ok (.value (.slice (some ⟨w.heap.size, 0, none⟩) xs.length xs.length)) (w.alloc (.cells (xs.map (Value.int q)).toArray t (0, 0)))) (hl : xs.length ≤ 1000000)
    (h : ∀ A c w1 bs, bs = xs → Kd.C (Kd.int q) w1 A bs.length bs → bs.length ≤ c → Below w.heap.size w w1 → wpList P ops Q rest (a.put o.dst (.slice A bs.length c)) w1) : wpList P ops Q (o :: rest) a w :=
  Kd.event_run hgd hrun (h _ _ _ xs rfl (C_block q xs (blk_new w _) hl) (Nat.le_refl _) (below_alloc (Below.refl _ _) _))
structure Held (w0 : World) (L : List (Nat × Array Value)) (W : World) : Prop where
  b : Below w0.heap.size w0 W
  h : ∀ p ∈ L, w0.heap.size ≤ p.1 ∧ W.heap[p.1]? = some (.cells p.2 30 (0, 0))
  d : L.Pairwise (fun p q => p.1 ≠ q.1)
theorem ev_var {ops : Array Oper} {rest : List Oper} {o1 o2 : Oper} {a : Act} {w W0 : World} {Q : Exit → Act → World → Prop} {x y : Operand} {cx : Array Value} {m : Msg}
    (ho1 : o1.op = .alloc 30) (hg1 : o1.guard = none) (ho2 : o2.op = .store 30 x y) (hg2 : o2.guard = none) (hd2 : o2.dst = none) (M : IsMsg W0 cx m)
    (hx : (a.put o1.dst (.pointer (some ⟨w.heap.size, 0, none⟩))).eval x = .pointer (some ⟨w.heap.size, 0, none⟩)) (hy : (a.put o1.dst (.pointer (some ⟨w.heap.size, 0, none⟩))).eval y = .agg cx)
    (h : ∀ g w', g = w.heap.size → w'.heap[g]? = some (.cells cx 30 (0, 0)) → Below w.heap.size w w' → wpList Try.prog ops Q rest (a.put o1.dst (.pointer (some ⟨g, 0, none⟩))) w') : wpList Try.prog ops Q (o1 :: o2 :: rest) a w := by
  refine Kd.event_run hg1 (run_alloc_msg a.eval o1 ho1 w) ?_
  refine wpList_store_row 30 x y ho2 hg2 hx hy (blk_new w _) (M.size.symm ▸ rfl) (msg_info M.size) M.one (fun w' h1 h2 => ?_)
  rw [hd2]
  exact h _ w' rfl h1 ((below_alloc (Below.refl _ _) _).trans ((h2.below (Nat.le_refl _) (by simp)).mono (by simp)))
theorem ev_get {ops : Array Oper} {rest : List Oper} {op : Oper} {a : Act} {w : World} {Q : Exit → Act → World → Prop} {x : Operand} {g : Nat} {cx : Array Value} {m : Msg} {W0 : World}
    (ho : op.op = .load 30 x) (hgd : op.guard = none) (hx : a.eval x = .pointer (some ⟨g, 0, none⟩)) (hb : w.heap[g]? = some (.cells cx 30 (0, 0))) (M : IsMsg W0 cx m)
    (h : wpList Try.prog ops Q rest (a.put op.dst (.agg cx)) w) : wpList Try.prog ops Q (op :: rest) a w :=
  wpList_load_row hgd 30 x ho g hx 30 cx (0, 0) _ hb Try.underlying30 rfl (msg_info M.size) h
end Go.Proofs.Ytdjeekpgcjcffaa.Same
end
section
namespace Go.Proofs.Ytdjeekpgcjcffaa.Com
open Go.RowKit Go.Proofs.Ytdjeekpgcjcffaa.P Go.Proofs.Ytdjeekpgcjcffaa.E Go.Proofs.Ytdjeekpgcjcffaa.Same Go.Proofs.YtdjeekpgcjcffaaW.PrintWords Go.Proofs.YtdjeekpgcjcffaaW.PrintLast Go.Proofs.YtdjeekpgcjcffaaW.PrintMore
def ParseC (fn : Nat) (dir code : Int) (l : List Int) (P : Msg × Int) : Prop := ∀ (A : Option Addr) (c : Nat) (W : World), Kd.C (Kd.int .u8) W A l.length l → l.length ≤ c → Calls Try.prog fn #[.int .i64 dir, .int .u8 code, .slice A l.length c] W fun en w' => ∃ cx, en = .returned (.tuple #[.agg cx, .int .i64 P.2]) ∧ IsMsg w' cx P.1 ∧ Below W.heap.size W w'
def LayC (fn : Nat) (dir : Int) (m : Msg) (l : List Int) : Prop := ∀ (cx : Array Value) (W : World), IsMsg W cx m → Calls Try.prog fn #[.int .i64 dir, .agg cx] W fun en w' => ∃ A c, en = .returned (.slice A l.length c) ∧ l.length ≤ c ∧ Kd.C (Kd.int .u8) w' A l.length l ∧ Below W.heap.size W w'
def WriteC (fn : Nat) (dir : Int) (m : Msg) (R : List Int × Int) : Prop := ∀ (cx : Array Value) (W : World), IsMsg W cx m → Calls Try.prog fn #[.int .i64 dir, .agg cx] W fun en w' => ∃ A c, en = .returned (.tuple #[.slice A R.1.length c, .int .i64 R.2]) ∧ R.1.length ≤ c ∧ Kd.C (Kd.int .u8) w' A R.1.length R.1 ∧ Below W.heap.size W w'
def AwakeC (fn : Nat) : Prop := ∀ W : World, Calls Try.prog fn #[] W fun en w' => en = .returned (.bool true) ∧ Below W.heap.size W w'
theorem ParseC.c {fn : Nat} {dir code : Int} {l : List Int} {P : Msg × Int} (h : ParseC fn dir code l P) {A : Option Addr} {c : Nat} {W : World} (hr : Kd.C (Kd.int .u8) W A l.length l) (hc : l.length ≤ c) : Calls Try.prog fn #[.int .i64 dir, .int .u8 code, .slice A l.length c] W fun en w' => ∃ cx, en = .returned (.tuple #[.agg cx, .int .i64 P.2]) ∧ IsMsg w' cx P.1 ∧ Below W.heap.size W w' := h A c W hr hc
theorem LayC.c {fn : Nat} {dir : Int} {m : Msg} {l : List Int} (h : LayC fn dir m l) {cx : Array Value} {W : World} (hm : IsMsg W cx m) : Calls Try.prog fn #[.int .i64 dir, .agg cx] W fun en w' => ∃ A c, en = .returned (.slice A l.length c) ∧ l.length ≤ c ∧ Kd.C (Kd.int .u8) w' A l.length l ∧ Below W.heap.size W w' := h cx W hm
theorem WriteC.c {fn : Nat} {dir : Int} {m : Msg} {R : List Int × Int} (h : WriteC fn dir m R) {cx : Array Value} {W : World} (hm : IsMsg W cx m) : Calls Try.prog fn #[.int .i64 dir, .agg cx] W fun en w' => ∃ A c, en = .returned (.tuple #[.slice A R.1.length c, .int .i64 R.2]) ∧ R.1.length ≤ c ∧ Kd.C (Kd.int .u8) w' A R.1.length R.1 ∧ Below W.heap.size W w' := h cx W hm
theorem WriteC.n {fn : Nat} {dir : Int} {m : Msg} {xs : List Int} {e : Int} (h : WriteC fn dir m (xs, e)) {n : Nat} (hn : xs.length = n) {cx : Array Value} {W : World} (hm : IsMsg W cx m) : Calls Try.prog fn #[.int .i64 dir, .agg cx] W fun en w' => ∃ A c, en = .returned (.tuple #[.slice A n c, .int .i64 e]) ∧ n ≤ c ∧ Kd.C (Kd.int .u8) w' A n xs ∧ Below W.heap.size W w' := by
  subst hn
  exact h cx W hm
theorem ParseC.ex {fn : Nat} {dir code : Int} {bs xs : List Int} {P : Msg × Int} (h : ParseC fn dir code xs P) (he : bs = xs) : ParseC fn dir code bs P := he ▸ h
theorem AwakeC.c {fn : Nat} (h : AwakeC fn) (W : World) : Calls Try.prog fn #[] W fun en w' => en = .returned (.bool true) ∧ Below W.heap.size W w' := h W
def writeR (m : Msg) (l : List Int) (P : Msg × Int) : List Int × Int := if P.2 = 0 ∧ sameB P.1 m = true then (l, 0) else ([], 1)
theorem write_err {dir : Int} {m : Msg} {l : List Int} {P : Msg × Int} (hl : LayC 31 dir m l) (hp : ParseC 12 dir m.code l P) {cx : Array Value} {w : World} (hm : IsMsg w cx m) (he : P.2 ≠ 0) :
    Calls Try.prog 16 #[.int .i64 dir, .agg cx] w fun en w' => ∃ A c, en = .returned (.tuple #[.slice A (([] : List Int)).length c, .int .i64 1]) ∧ (([] : List Int)).length ≤ c ∧ Kd.C (Kd.int .u8) w' A (([] : List Int)).length (([] : List Int)) ∧ Below w.heap.size w w' := by
  have HL := Aside0.mk hl
  have HPC := Aside0.mk hp
  have H := Aside0.mk (Hd.start w)
  have hsz := hm.size
  have hix := msg_info hsz
  have n0_ := Aside0.mk ((((H.out.on (below_alloc (Below.refl _ _) (Obj.cells cx 30)))).add (sta_blk _ _) (blk_new _ _)).add (sta_msg _ _) (hm.on (below_alloc (Below.refl _ _) _)))
  clear H
  have H := n0_
  clear n0_
  have e0 : (P.2 == 0) = false := beq_eq_false_iff_ne.2 he
  have e1 : (P.2 != 0) = true := by rw [bne, e0]; rfl
  clear hl hp he hm
  go_enter Try.func16, Try.ntmps16
  go_upto_region 2 with (first | ((with_reducible refine gate_dst (N := 10) rfl ?_); (try (refine gate_guard (by rfl) ?_; dsimp only)); refine ev_get (x := .tmp 3) rfl rfl rfl H.out.f.1.2 H.out.f.2 ?_) | (go_at_call 31; (with_reducible refine (LayC.c HL.out H.out.f.2).mono ?_); rintro en wb ⟨Ab, cb, rfl, hz_, hr_, hb_⟩; have n0_ := Aside0.mk ((H.out.on hb_).add (sta_C _ _ _ _) (hr_)); clear H; have H := n0_; clear n0_; have Zb := Aside0.mk hz_; clear hb_ hr_ hz_))
  have kc := bx_code H.out.f.1.1.2 H.out.f.1.2
  go_upto_region 3 with (first | (go_at_call 12; (with_reducible refine (ParseC.c HPC.out H.out.f.2 Zb.out).mono ?_); rintro en wx ⟨cx2, rfl, hm_, hb_⟩; have n0_ := Aside0.mk ((H.out.on hb_).add (sta_msg _ _) (hm_)); clear H; have H := n0_; clear n0_; clear hb_ hm_) | ((with_reducible refine gate_dst (N := 7) rfl ?_); refine ev_var (y := .tmp 18) rfl rfl rfl rfl rfl H.out.f.2 rfl rfl ?_; intro gx wv hg_ h1_ hb_; have n0_ := Aside0.mk ((H.out.on hb_).add (sta_blk _ _) (h1_)); clear H; have H := n0_; clear n0_; clear h1_ hb_ hg_))
  clear kc
  go_wp2
  go_ret2
  exact ⟨none, 0, rfl, Nat.le_refl _, Kd.C_nil _ _, H.out.b⟩
theorem write_not {dir : Int} {m : Msg} {l : List Int} {P : Msg × Int} (hl : LayC 31 dir m l) (hp : ParseC 12 dir m.code l P) {cx : Array Value} {w : World} (hm : IsMsg w cx m) (he : P.2 = 0) (hs : sameB P.1 m = false) :
    Calls Try.prog 16 #[.int .i64 dir, .agg cx] w fun en w' => ∃ A c, en = .returned (.tuple #[.slice A (([] : List Int)).length c, .int .i64 1]) ∧ (([] : List Int)).length ≤ c ∧ Kd.C (Kd.int .u8) w' A (([] : List Int)).length (([] : List Int)) ∧ Below w.heap.size w w' := by
  have HL := Aside0.mk hl
  have HPC := Aside0.mk hp
  have H := Aside0.mk (Hd.start w)
  have hsz := hm.size
  have hix := msg_info hsz
  have n0_ := Aside0.mk ((((H.out.on (below_alloc (Below.refl _ _) (Obj.cells cx 30)))).add (sta_blk _ _) (blk_new _ _)).add (sta_msg _ _) (hm.on (below_alloc (Below.refl _ _) _)))
  clear H
  have H := n0_
  clear n0_
  have e0 : (P.2 == 0) = true := beq_iff_eq.2 he
  have e1 : (P.2 != 0) = false := by rw [bne, e0]; rfl
  clear hl hp he hm
  go_enter Try.func16, Try.ntmps16
  go_upto_region 2 with (first | ((with_reducible refine gate_dst (N := 10) rfl ?_); (try (refine gate_guard (by rfl) ?_; dsimp only)); refine ev_get (x := .tmp 3) rfl rfl rfl H.out.f.1.2 H.out.f.2 ?_) | (go_at_call 31; (with_reducible refine (LayC.c HL.out H.out.f.2).mono ?_); rintro en wb ⟨Ab, cb, rfl, hz_, hr_, hb_⟩; have n0_ := Aside0.mk ((H.out.on hb_).add (sta_C _ _ _ _) (hr_)); clear H; have H := n0_; clear n0_; have Zb := Aside0.mk hz_; clear hb_ hr_ hz_))
  have kc := bx_code H.out.f.1.1.2 H.out.f.1.2
  go_upto_region 3 with (first | (go_at_call 12; (with_reducible refine (ParseC.c HPC.out H.out.f.2 Zb.out).mono ?_); rintro en wx ⟨cx2, rfl, hm_, hb_⟩; have n0_ := Aside0.mk ((H.out.on hb_).add (sta_msg _ _) (hm_)); clear H; have H := n0_; clear n0_; clear hb_ hm_) | ((with_reducible refine gate_dst (N := 7) rfl ?_); refine ev_var (y := .tmp 18) rfl rfl rfl rfl rfl H.out.f.2 rfl rfl ?_; intro gx wv hg_ h1_ hb_; have n0_ := Aside0.mk ((H.out.on hb_).add (sta_blk _ _) (h1_)); clear H; have H := n0_; clear n0_; clear h1_ hb_ hg_))
  clear kc
  go_wp2_with (first | ((with_reducible refine gate_dst (N := 23) rfl ?_); (try (refine gate_guard (by rfl) ?_; dsimp only)); refine ev_get (x := .tmp 7) rfl rfl rfl H.out.f.2 H.out.f.1.2 ?_) | ((with_reducible refine gate_dst (N := 24) rfl ?_); (try (refine gate_guard (by rfl) ?_; dsimp only)); refine ev_get (x := .tmp 3) rfl rfl rfl H.out.f.1.1.1.1.2 H.out.f.1.1.1.2 ?_) | (go_at_call 32; (with_reducible refine (same_msg H.out.f.1.2 H.out.f.1.1.1.2).mono ?_); rintro en ws ⟨rfl, hb_⟩; have n0_ := Aside0.mk (H.out.on hb_); clear H; have H := n0_; clear n0_; clear hb_))
  go_ret2
  exact ⟨none, 0, rfl, Nat.le_refl _, Kd.C_nil _ _, H.out.b⟩
theorem write_yes {dir : Int} {m : Msg} {l : List Int} {P : Msg × Int} (hl : LayC 31 dir m l) (hp : ParseC 12 dir m.code l P) {cx : Array Value} {w : World} (hm : IsMsg w cx m) (he : P.2 = 0) (hs : sameB P.1 m = true) :
    Calls Try.prog 16 #[.int .i64 dir, .agg cx] w fun en w' => ∃ A c, en = .returned (.tuple #[.slice A (l).length c, .int .i64 0]) ∧ (l).length ≤ c ∧ Kd.C (Kd.int .u8) w' A (l).length (l) ∧ Below w.heap.size w w' := by
  have HL := Aside0.mk hl
  have HPC := Aside0.mk hp
  have H := Aside0.mk (Hd.start w)
  have hsz := hm.size
  have hix := msg_info hsz
  have n0_ := Aside0.mk ((((H.out.on (below_alloc (Below.refl _ _) (Obj.cells cx 30)))).add (sta_blk _ _) (blk_new _ _)).add (sta_msg _ _) (hm.on (below_alloc (Below.refl _ _) _)))
  clear H
  have H := n0_
  clear n0_
  have e0 : (P.2 == 0) = true := beq_iff_eq.2 he
  have e1 : (P.2 != 0) = false := by rw [bne, e0]; rfl
  clear hl hp he hm
  go_enter Try.func16, Try.ntmps16
  go_upto_region 2 with (first | ((with_reducible refine gate_dst (N := 10) rfl ?_); (try (refine gate_guard (by rfl) ?_; dsimp only)); refine ev_get (x := .tmp 3) rfl rfl rfl H.out.f.1.2 H.out.f.2 ?_) | (go_at_call 31; (with_reducible refine (LayC.c HL.out H.out.f.2).mono ?_); rintro en wb ⟨Ab, cb, rfl, hz_, hr_, hb_⟩; have n0_ := Aside0.mk ((H.out.on hb_).add (sta_C _ _ _ _) (hr_)); clear H; have H := n0_; clear n0_; have Zb := Aside0.mk hz_; clear hb_ hr_ hz_))
  have kc := bx_code H.out.f.1.1.2 H.out.f.1.2
  go_upto_region 3 with (first | (go_at_call 12; (with_reducible refine (ParseC.c HPC.out H.out.f.2 Zb.out).mono ?_); rintro en wx ⟨cx2, rfl, hm_, hb_⟩; have n0_ := Aside0.mk ((H.out.on hb_).add (sta_msg _ _) (hm_)); clear H; have H := n0_; clear n0_; clear hb_ hm_) | ((with_reducible refine gate_dst (N := 7) rfl ?_); refine ev_var (y := .tmp 18) rfl rfl rfl rfl rfl H.out.f.2 rfl rfl ?_; intro gx wv hg_ h1_ hb_; have n0_ := Aside0.mk ((H.out.on hb_).add (sta_blk _ _) (h1_)); clear H; have H := n0_; clear n0_; clear h1_ hb_ hg_))
  clear kc
  go_wp2_with (first | ((with_reducible refine gate_dst (N := 23) rfl ?_); (try (refine gate_guard (by rfl) ?_; dsimp only)); refine ev_get (x := .tmp 7) rfl rfl rfl H.out.f.2 H.out.f.1.2 ?_) | ((with_reducible refine gate_dst (N := 24) rfl ?_); (try (refine gate_guard (by rfl) ?_; dsimp only)); refine ev_get (x := .tmp 3) rfl rfl rfl H.out.f.1.1.1.1.2 H.out.f.1.1.1.2 ?_) | (go_at_call 32; (with_reducible refine (same_msg H.out.f.1.2 H.out.f.1.1.1.2).mono ?_); rintro en ws ⟨rfl, hb_⟩; have n0_ := Aside0.mk (H.out.on hb_); clear H; have H := n0_; clear n0_; clear hb_))
  go_ret2
  exact ⟨Ab, cb, rfl, Zb.out, H.out.f.1.1.2, H.out.b⟩
theorem rwrite_err {dir : Int} {m : Msg} {l : List Int} {P : Msg × Int} (hl : LayC 33 dir m l) (hp : ParseC 13 dir m.code l P) {cx : Array Value} {w : World} (hm : IsMsg w cx m) (he : P.2 ≠ 0) :
    Calls Try.prog 17 #[.int .i64 dir, .agg cx] w fun en w' => ∃ A c, en = .returned (.tuple #[.slice A (([] : List Int)).length c, .int .i64 1]) ∧ (([] : List Int)).length ≤ c ∧ Kd.C (Kd.int .u8) w' A (([] : List Int)).length (([] : List Int)) ∧ Below w.heap.size w w' := by
  have HL := Aside0.mk hl
  have HPC := Aside0.mk hp
  have H := Aside0.mk (Hd.start w)
  have hsz := hm.size
  have hix := msg_info hsz
  have n0_ := Aside0.mk ((((H.out.on (below_alloc (Below.refl _ _) (Obj.cells cx 30)))).add (sta_blk _ _) (blk_new _ _)).add (sta_msg _ _) (hm.on (below_alloc (Below.refl _ _) _)))
  clear H
  have H := n0_
  clear n0_
  have e0 : (P.2 == 0) = false := beq_eq_false_iff_ne.2 he
  have e1 : (P.2 != 0) = true := by rw [bne, e0]; rfl
  clear hl hp he hm
  go_enter Try.func17, Try.ntmps17
  go_upto_region 2 with (first | ((with_reducible refine gate_dst (N := 11) rfl ?_); (try (refine gate_guard (by rfl) ?_; dsimp only)); refine ev_get (x := .tmp 3) rfl rfl rfl H.out.f.1.2 H.out.f.2 ?_) | (go_at_call 33; (with_reducible refine (LayC.c HL.out H.out.f.2).mono ?_); rintro en wb ⟨Ab, cb, rfl, hz_, hr_, hb_⟩; have n0_ := Aside0.mk ((H.out.on hb_).add (sta_C _ _ _ _) (hr_)); clear H; have H := n0_; clear n0_; have Zb := Aside0.mk hz_; clear hb_ hr_ hz_))
  have kc := bx_code H.out.f.1.1.2 H.out.f.1.2
  go_upto_region 3 with (first | (go_at_call 13; (with_reducible refine (ParseC.c HPC.out H.out.f.2 Zb.out).mono ?_); rintro en wx ⟨cx2, rfl, hm_, hb_⟩; have n0_ := Aside0.mk ((H.out.on hb_).add (sta_msg _ _) (hm_)); clear H; have H := n0_; clear n0_; clear hb_ hm_) | ((with_reducible refine gate_dst (N := 7) rfl ?_); refine ev_var (y := .tmp 19) rfl rfl rfl rfl rfl H.out.f.2 rfl rfl ?_; intro gx wv hg_ h1_ hb_; have n0_ := Aside0.mk ((H.out.on hb_).add (sta_blk _ _) (h1_)); clear H; have H := n0_; clear n0_; clear h1_ hb_ hg_))
  clear kc
  go_upto_region 4 with (first | ((with_reducible refine gate_dst (N := 21) rfl ?_); (try (refine gate_guard (by rfl) ?_; dsimp only)); refine ev_get (x := .tmp 7) rfl rfl rfl H.out.f.2 H.out.f.1.2 ?_) | ((with_reducible refine gate_dst (N := 22) rfl ?_); (try (refine gate_guard (by rfl) ?_; dsimp only)); refine ev_get (x := .tmp 3) rfl rfl rfl H.out.f.1.1.1.1.2 H.out.f.1.1.1.2 ?_) | (go_at_call 14; (with_reducible refine (refsame_msg H.out.f.1.2 H.out.f.1.1.1.2).mono ?_); rintro en ws ⟨rfl, hb_⟩; have n0_ := Aside0.mk (H.out.on hb_); clear H; have H := n0_; clear n0_; clear hb_))
  go_wp2
  go_ret2
  exact ⟨none, 0, rfl, Nat.le_refl _, Kd.C_nil _ _, H.out.b⟩
theorem rwrite_not {dir : Int} {m : Msg} {l : List Int} {P : Msg × Int} (hl : LayC 33 dir m l) (hp : ParseC 13 dir m.code l P) {cx : Array Value} {w : World} (hm : IsMsg w cx m) (he : P.2 = 0) (hs : sameB P.1 m = false) :
    Calls Try.prog 17 #[.int .i64 dir, .agg cx] w fun en w' => ∃ A c, en = .returned (.tuple #[.slice A (([] : List Int)).length c, .int .i64 1]) ∧ (([] : List Int)).length ≤ c ∧ Kd.C (Kd.int .u8) w' A (([] : List Int)).length (([] : List Int)) ∧ Below w.heap.size w w' := by
  have HL := Aside0.mk hl
  have HPC := Aside0.mk hp
  have H := Aside0.mk (Hd.start w)
  have hsz := hm.size
  have hix := msg_info hsz
  have n0_ := Aside0.mk ((((H.out.on (below_alloc (Below.refl _ _) (Obj.cells cx 30)))).add (sta_blk _ _) (blk_new _ _)).add (sta_msg _ _) (hm.on (below_alloc (Below.refl _ _) _)))
  clear H
  have H := n0_
  clear n0_
  have e0 : (P.2 == 0) = true := beq_iff_eq.2 he
  have e1 : (P.2 != 0) = false := by rw [bne, e0]; rfl
  clear hl hp he hm
  go_enter Try.func17, Try.ntmps17
  go_upto_region 2 with (first | ((with_reducible refine gate_dst (N := 11) rfl ?_); (try (refine gate_guard (by rfl) ?_; dsimp only)); refine ev_get (x := .tmp 3) rfl rfl rfl H.out.f.1.2 H.out.f.2 ?_) | (go_at_call 33; (with_reducible refine (LayC.c HL.out H.out.f.2).mono ?_); rintro en wb ⟨Ab, cb, rfl, hz_, hr_, hb_⟩; have n0_ := Aside0.mk ((H.out.on hb_).add (sta_C _ _ _ _) (hr_)); clear H; have H := n0_; clear n0_; have Zb := Aside0.mk hz_; clear hb_ hr_ hz_))
  have kc := bx_code H.out.f.1.1.2 H.out.f.1.2
  go_upto_region 3 with (first | (go_at_call 13; (with_reducible refine (ParseC.c HPC.out H.out.f.2 Zb.out).mono ?_); rintro en wx ⟨cx2, rfl, hm_, hb_⟩; have n0_ := Aside0.mk ((H.out.on hb_).add (sta_msg _ _) (hm_)); clear H; have H := n0_; clear n0_; clear hb_ hm_) | ((with_reducible refine gate_dst (N := 7) rfl ?_); refine ev_var (y := .tmp 19) rfl rfl rfl rfl rfl H.out.f.2 rfl rfl ?_; intro gx wv hg_ h1_ hb_; have n0_ := Aside0.mk ((H.out.on hb_).add (sta_blk _ _) (h1_)); clear H; have H := n0_; clear n0_; clear h1_ hb_ hg_))
  clear kc
  go_upto_region 4 with (first | ((with_reducible refine gate_dst (N := 21) rfl ?_); (try (refine gate_guard (by rfl) ?_; dsimp only)); refine ev_get (x := .tmp 7) rfl rfl rfl H.out.f.2 H.out.f.1.2 ?_) | ((with_reducible refine gate_dst (N := 22) rfl ?_); (try (refine gate_guard (by rfl) ?_; dsimp only)); refine ev_get (x := .tmp 3) rfl rfl rfl H.out.f.1.1.1.1.2 H.out.f.1.1.1.2 ?_) | (go_at_call 14; (with_reducible refine (refsame_msg H.out.f.1.2 H.out.f.1.1.1.2).mono ?_); rintro en ws ⟨rfl, hb_⟩; have n0_ := Aside0.mk (H.out.on hb_); clear H; have H := n0_; clear n0_; clear hb_))
  go_wp2
  go_ret2
  exact ⟨none, 0, rfl, Nat.le_refl _, Kd.C_nil _ _, H.out.b⟩
theorem rwrite_yes {dir : Int} {m : Msg} {l : List Int} {P : Msg × Int} (hl : LayC 33 dir m l) (hp : ParseC 13 dir m.code l P) {cx : Array Value} {w : World} (hm : IsMsg w cx m) (he : P.2 = 0) (hs : sameB P.1 m = true) :
    Calls Try.prog 17 #[.int .i64 dir, .agg cx] w fun en w' => ∃ A c, en = .returned (.tuple #[.slice A (l).length c, .int .i64 0]) ∧ (l).length ≤ c ∧ Kd.C (Kd.int .u8) w' A (l).length (l) ∧ Below w.heap.size w w' := by
  have HL := Aside0.mk hl
  have HPC := Aside0.mk hp
  have H := Aside0.mk (Hd.start w)
  have hsz := hm.size
  have hix := msg_info hsz
  have n0_ := Aside0.mk ((((H.out.on (below_alloc (Below.refl _ _) (Obj.cells cx 30)))).add (sta_blk _ _) (blk_new _ _)).add (sta_msg _ _) (hm.on (below_alloc (Below.refl _ _) _)))
  clear H
  have H := n0_
  clear n0_
  have e0 : (P.2 == 0) = true := beq_iff_eq.2 he
  have e1 : (P.2 != 0) = false := by rw [bne, e0]; rfl
  clear hl hp he hm
  go_enter Try.func17, Try.ntmps17
  go_upto_region 2 with (first | ((with_reducible refine gate_dst (N := 11) rfl ?_); (try (refine gate_guard (by rfl) ?_; dsimp only)); refine ev_get (x := .tmp 3) rfl rfl rfl H.out.f.1.2 H.out.f.2 ?_) | (go_at_call 33; (with_reducible refine (LayC.c HL.out H.out.f.2).mono ?_); rintro en wb ⟨Ab, cb, rfl, hz_, hr_, hb_⟩; have n0_ := Aside0.mk ((H.out.on hb_).add (sta_C _ _ _ _) (hr_)); clear H; have H := n0_; clear n0_; have Zb := Aside0.mk hz_; clear hb_ hr_ hz_))
  have kc := bx_code H.out.f.1.1.2 H.out.f.1.2
  go_upto_region 3 with (first | (go_at_call 13; (with_reducible refine (ParseC.c HPC.out H.out.f.2 Zb.out).mono ?_); rintro en wx ⟨cx2, rfl, hm_, hb_⟩; have n0_ := Aside0.mk ((H.out.on hb_).add (sta_msg _ _) (hm_)); clear H; have H := n0_; clear n0_; clear hb_ hm_) | ((with_reducible refine gate_dst (N := 7) rfl ?_); refine ev_var (y := .tmp 19) rfl rfl rfl rfl rfl H.out.f.2 rfl rfl ?_; intro gx wv hg_ h1_ hb_; have n0_ := Aside0.mk ((H.out.on hb_).add (sta_blk _ _) (h1_)); clear H; have H := n0_; clear n0_; clear h1_ hb_ hg_))
  clear kc
  go_upto_region 4 with (first | ((with_reducible refine gate_dst (N := 21) rfl ?_); (try (refine gate_guard (by rfl) ?_; dsimp only)); refine ev_get (x := .tmp 7) rfl rfl rfl H.out.f.2 H.out.f.1.2 ?_) | ((with_reducible refine gate_dst (N := 22) rfl ?_); (try (refine gate_guard (by rfl) ?_; dsimp only)); refine ev_get (x := .tmp 3) rfl rfl rfl H.out.f.1.1.1.1.2 H.out.f.1.1.1.2 ?_) | (go_at_call 14; (with_reducible refine (refsame_msg H.out.f.1.2 H.out.f.1.1.1.2).mono ?_); rintro en ws ⟨rfl, hb_⟩; have n0_ := Aside0.mk (H.out.on hb_); clear H; have H := n0_; clear n0_; clear hb_))
  go_wp2
  go_ret2
  exact ⟨Ab, cb, rfl, Zb.out, H.out.f.1.1.2, H.out.b⟩
theorem write_of {dir : Int} {m : Msg} {l : List Int} {P : Msg × Int} (hl : LayC 31 dir m l) (hp : ParseC 12 dir m.code l P) : WriteC 16 dir m (writeR m l P) := by
  intro cx W hm
  unfold writeR
  by_cases he : P.2 = 0
  · cases hs : sameB P.1 m with
    | false => rw [if_neg (fun h => by cases h.2)]; exact write_not hl hp hm he hs
    | true => rw [if_pos ⟨he, rfl⟩]; exact write_yes hl hp hm he hs
  · rw [if_neg (fun h => he h.1)]; exact write_err hl hp hm he
theorem rwrite_of {dir : Int} {m : Msg} {l : List Int} {P : Msg × Int} (hl : LayC 33 dir m l) (hp : ParseC 13 dir m.code l P) : WriteC 17 dir m (writeR m l P) := by
  intro cx W hm
  unfold writeR
  by_cases he : P.2 = 0
  · cases hs : sameB P.1 m with
    | false => rw [if_neg (fun h => by cases h.2)]; exact rwrite_not hl hp hm he hs
    | true => rw [if_pos ⟨he, rfl⟩]; exact rwrite_yes hl hp hm he hs
  · rw [if_neg (fun h => he h.1)]; exact rwrite_err hl hp hm he
end Go.Proofs.Ytdjeekpgcjcffaa.Com
end
section
namespace Go.Proofs.Ytdjeekpgcjcffaa.Cur
open Go.RowKit Go.Proofs.Ytdjeekpgcjcffaa.E Go.Proofs.YtdjeekpgcjcffaaW.PrintWords Go.Proofs.YtdjeekpgcjcffaaW.PrintLast Go.Proofs.YtdjeekpgcjcffaaW.PrintMore
def Row (lo hi : Nat) (w : World) (A : Option Addr) (xs : List Int) : Prop := ∀ W', Kept w W' (fun k => k < lo ∨ hi ≤ k) → Kd.C (Kd.int .u8) W' A xs.length xs
theorem Row.now {lo hi : Nat} {w : World} {A : Option Addr} {xs : List Int} (h : Row lo hi w A xs) : Kd.C (Kd.int .u8) w A xs.length xs := h w (Kept.refl _ _)
theorem Row.on {lo hi : Nat} {w w' : World} {A : Option Addr} {xs : List Int} (h : Row lo hi w A xs) (hk : Kept w w' (fun k => k < lo ∨ hi ≤ k)) : Row lo hi w' A xs := fun W' hk' => h W' (hk.then_ hk' (fun _ h2 => .inl h2))
theorem Row.nil (lo hi : Nat) (w : World) : Row lo hi w none [] := fun W' _ => Kd.C_nil _ W'
theorem Row.wide {lo hi lo' hi' : Nat} {w : World} {A : Option Addr} {xs : List Int} (h : Row lo hi w A xs) (h1 : lo' ≤ lo) (h2 : hi ≤ hi') : Row lo' hi' w A xs := fun W' hk => h W' (hk.mono fun k hk => by omega)
theorem row_of_R {w1 : World} {e : Nat} {ok : Nat → Prop} {A : Option Addr} {n c lo : Nat} {xs : List Int} (h : Kd.R (Kd.int .u8) e w1 lo ok (.slice A n c) xs) : n = xs.length ∧ xs.length ≤ c ∧ Row lo w1.heap.size w1 A xs := by
  have h2 := Kd.R_reads' h
  obtain ⟨rfl, h3, _⟩ := h2
  exact ⟨rfl, h3, Kd.C_kept_own (Kd.R_bound h) (fun k hk => by omega)⟩
structure Upd (g : Nat) (w w' : World) : Prop where
  os : w'.os = w.os
  tape : w'.tape = w.tape
  output : w'.output = w.output
  kept : Kept w w' (fun k => k = g)
theorem Upd.refl (g : Nat) (w : World) : Upd g w w := ⟨rfl, rfl, rfl, Kept.refl _ _⟩
theorem Upd.of_below {g : Nat} {w w' : World} (h : Below w.heap.size w w') : Upd g w w' := ⟨h.os, h.tape, h.output, Kept.of_below h _⟩
theorem Upd.trans {g : Nat} {a b c : World} (h : Upd g a b) (k : Upd g b c) : Upd g a c := ⟨k.os.trans h.os, k.tape.trans h.tape, k.output.trans h.output, h.kept.then_ k.kept (fun _ h2 => .inl h2)⟩
theorem Upd.set (w : World) (g i : Nat) (v : Value) : Upd g w (w.setCell ⟨g, i, none⟩ v) := ⟨rfl, rfl, rfl, (Kept.refl w (fun k => k = g)).setCell (p := ⟨g, i, none⟩) (.inl rfl) v⟩
theorem Upd.below {g B : Nat} {w w' : World} (h : Upd g w w') (hB : B ≤ g) (hs : B ≤ w.heap.size) : Below B w w' := ⟨h.os, h.tape, h.output, h.kept.1, fun k hk => h.kept.2 k (by omega) (by omega)⟩
def At (lo hi : Nat) (w : World) (g : Nat) (xs : List Int) (s : Bool) (e : Int) : Prop :=
  hi ≤ g ∧ ∃ A c, w.heap[g]? = some (.cells #[.slice A xs.length c, .bool s, .int .i64 e] 73 (0, 0)) ∧ xs.length ≤ c ∧ Row lo hi w A xs
theorem At.lt {lo hi : Nat} {w : World} {g : Nat} {xs : List Int} {s : Bool} {e : Int} (h : At lo hi w g xs s e) : g < w.heap.size := by
  obtain ⟨_, A, c, h1, _⟩ := h
  exact blk_lt h1
theorem At.on {lo hi : Nat} {w w' : World} {g : Nat} {xs : List Int} {s : Bool} {e : Int} {S : Nat → Prop} (h : At lo hi w g xs s e) (hk : Kept w w' S) (h1 : ∀ k, S k → k < lo ∨ hi ≤ k) (h2 : ¬ S g) : At lo hi w' g xs s e := by
  obtain ⟨h3, A, c, h4, h5, h6⟩ := h
  exact ⟨h3, A, c, blk_kept h4 hk h2, h5, h6.on (hk.mono h1)⟩
theorem At.below {lo hi : Nat} {w w' : World} {g : Nat} {xs : List Int} {s : Bool} {e : Int} (h : At lo hi w g xs s e) (hb : Below w.heap.size w w') : At lo hi w' g xs s e :=
  h.on (Kept.of_below hb (fun _ => False)) (fun _ h => h.elim) (fun h => h)
theorem cells_of {w : World} {g : Nat} {t : TypeId} {v0 v1 v2 : Value} (h : w.heap[g]? = some (.cells #[v0, v1, v2] t (0, 0))) : w.cell? ⟨g, 0, none⟩ = some v0 ∧ w.cell? ⟨g, 1, none⟩ = some v1 ∧ w.cell? ⟨g, 2, none⟩ = some v2 ∧ w.frozen? ⟨g, 0, none⟩ = false ∧ w.frozen? ⟨g, 1, none⟩ = false ∧ w.frozen? ⟨g, 2, none⟩ = false :=
  ⟨blk_cell h 0, blk_cell h 1, blk_cell h 2, blk_frozen h 0, blk_frozen h 1, blk_frozen h 2⟩
theorem clone_any (A : Option Addr) (c : Nat) (l : List Int) (w : World) (hr : Kd.C (Kd.int .u8) w A l.length l) (hc : l.length ≤ c) (hs : l.length ≤ 1000000) :
    Calls Try.prog 41 #[.slice A l.length c] w fun e w' => ∃ A' c', e = .returned (.slice A' l.length c') ∧ l.length ≤ c' ∧ Row w.heap.size w'.heap.size w' A' l ∧ Below w.heap.size w w' := by
  have HR := Aside0.mk hr
  clear hr
  have hu1 := Try.underlying22
  have hq := fun (w : World) (a : Option Addr) (n c : Nat) => Lib.run_eql_slice_nil (P := Try.prog) w 22 5 a n c 0 0 Try.underlying22
  cases A with
  | none =>
    have hl : l = [] := by
      cases l with
      | nil => rfl
      | cons x xs => obtain ⟨_, h, _⟩ := HR.out.2.2 (by simp); cases h
    subst hl
    go_enter Try.func41, Try.ntmps41
    go_wp2
    go_ret
    exact ⟨none, 0, rfl, Nat.le_refl _, Row.nil _ _ _, Below.refl _ _⟩
  | some a =>
    go_enter Try.func41, Try.ntmps41
    go_upto_region 3 with (fail)
    refine wp_region_lit ?_
    refine Kd.R_lit (Kd.int .u8) w.heap.size 5 rfl (N := 5) rfl (xs := ([] : List Int)) (inner := []) (ok := fun _ => True) (okp := fun _ => True) ?h1 ?h2 (fun _ h => h) trivial (Below.refl _ _) (Nat.le_refl _) (by simp) ?_
    case h1 => first | (go_simp; done) | (go_simp; rfl)
    case h2 => exact Reps.none _ _
    intro v1 w1 R1 B1 _ _
    refine Kd.event_run (v := .slice (some a) l.length c) rfl (by first | (go_simp; done) | (go_simp; rfl)) ?_
    simp only [Act.put, List.setIfInBounds_toArray, List.set_cons_zero, List.set_cons_succ]
    refine Kd.R_append_rows (Kd.int .u8) (Rr := (Kd.int .u8).K w1) w.heap.size rfl (.tmp 5) (.tmp 6) 22 5 (.int .u8 0) 1 rfl hu1 (by kernel_rfl) rfl (by decide) (by decide) v1 [] l (some a) l.length c (fun _ => True) (fun k => True ∧ some k ≠ v1.ownBlock) rfl rfl R1 (Kd.C_below HR.out B1) (fun _ _ h => h) (fun _ h => h) (fun _ _ => trivial) B1 B1.size (by simp; omega) ?_
    intro v2 w2 R2 B2 _ _
    obtain ⟨A2, c2, rfl, h2, h3⟩ := Kd.R_reads R2
    obtain ⟨_, h5, h6⟩ := row_of_R R2
    rw [List.nil_append] at h2 h5 h6
    have H2 := Aside0.mk h5
    have H6 := Aside0.mk h6
    have H7 := Aside0.mk B2
    clear h2 h5 h6 B2 h3 R2
    go_wp2
    go_ret
    exact ⟨A2, c2, rfl, H2.out, H6.out, H7.out⟩
theorem new_any (A : Option Addr) (c : Nat) (l : List Int) (w : World) (hr : Kd.C (Kd.int .u8) w A l.length l) (hc : l.length ≤ c) (hs : l.length ≤ 1000000) :
    Calls Try.prog 20 #[.slice A l.length c] w fun e w' => ∃ g, e = .returned (.pointer (some ⟨g, 0, none⟩)) ∧ w.heap.size ≤ g ∧ At w.heap.size g w' g l false 0 ∧ Below w.heap.size w w' ∧ w'.heap.size = g + 1 := by
  have HR := Aside0.mk hr
  clear hr
  have hu1 := Try.underlying73
  go_enter Try.func20, Try.ntmps20
  go_wp2_with (go_at_call 41; refine (clone_any _ _ _ _ HR.out hc hs).mono ?_; rintro e w1 ⟨A1, c1, rfl, h1, h2, h3⟩; have H1 := Aside0.mk h1; have H2 := Aside0.mk h2; have H3 := Aside0.mk h3; clear h1 h2 h3)
  go_ret
  refine ⟨w1.heap.size, rfl, H3.out.size, ⟨Nat.le_refl _, A1, c1, blk_new _ _, H1.out, H2.out.on (Kept.of_below (below_alloc (Below.refl _ _) _) _)⟩, below_alloc H3.out _, by simp⟩
theorem need_any (lo hi g : Nat) (xs : List Int) (s : Bool) (e : Int) (ok : Bool) (f : Int) (w : World) (h : At lo hi w g xs s e) :
    Calls Try.prog 22 #[.pointer (some ⟨g, 0, none⟩), .bool ok, .int .i64 f] w fun en w' => en = .returned (.tuple #[]) ∧ At lo hi w' g xs s (if e = 0 ∧ ok = false then f else e) ∧ Upd g w w' := by
  obtain ⟨h1, A, c, h2, h3, h4⟩ := h
  obtain ⟨k0, k1, k2, f0, f1, f2⟩ := cells_of h2
  have H2 := Aside0.mk h2
  have H4 := Aside0.mk h4
  clear h2 h4
  have hu1 := Try.underlying73
  by_cases he : e = 0
  · subst he
    cases ok with
    | false =>
      go_enter Try.func22, Try.ntmps22
      go_wp2
      refine bodyPost_end (results_none rfl _ _ _) rfl ⟨rfl, ⟨h1, A, c, ?_, h3, ?_⟩, Upd.set _ _ _ _⟩
      · exact blk_put H2.out 2 _ rfl
      · exact H4.out.on ((Upd.set w g 2 _).kept.mono (fun k hk => .inr (by omega)))
    | true =>
      go_enter Try.func22, Try.ntmps22
      go_wp2
      exact bodyPost_end (results_none rfl _ _ _) rfl ⟨rfl, ⟨h1, A, c, H2.out, h3, H4.out⟩, Upd.refl _ _⟩
  · have he2 : (e == 0) = false := beq_eq_false_iff_ne.2 he
    have he3 : (e != 0) = true := bne_iff_ne.2 he
    rw [if_neg (fun hh => he hh.1)]
    clear he
    go_enter Try.func22, Try.ntmps22
    go_wp2
    exact bodyPost_end (results_none rfl _ _ _) rfl ⟨rfl, ⟨h1, A, c, H2.out, h3, H4.out⟩, Upd.refl _ _⟩
theorem left_any (lo hi g : Nat) (xs : List Int) (s : Bool) (e : Int) (w : World) (h : At lo hi w g xs s e) :
    Calls Try.prog 43 #[.pointer (some ⟨g, 0, none⟩)] w fun en w' => en = .returned (.int .i64 xs.length) ∧ w' = w := by
  obtain ⟨h1, A, c, h2, h3, h4⟩ := h
  obtain ⟨k0, k1, k2, f0, f1, f2⟩ := cells_of h2
  clear h2 h4
  have hu1 := Try.underlying73
  go_enter Try.func43, Try.ntmps43
  go_wp2
  go_ret
  exact ⟨rfl, rfl⟩
theorem err_any (lo hi g : Nat) (xs : List Int) (s : Bool) (e : Int) (w : World) (h : At lo hi w g xs s e) :
    Calls Try.prog 25 #[.pointer (some ⟨g, 0, none⟩)] w fun en w' => en = .returned (.int .i64 e) ∧ w' = w := by
  obtain ⟨h1, A, c, h2, h3, h4⟩ := h
  obtain ⟨k0, k1, k2, f0, f1, f2⟩ := cells_of h2
  clear h2 h4
  have hu1 := Try.underlying73
  go_enter Try.func25, Try.ntmps25
  go_wp2
  go_ret
  exact ⟨rfl, rfl⟩
def okB (n : Int) (xs : List Int) (s : Bool) : Bool := !s && decide (0 ≤ n) && decide (n ≤ (xs.length : Int))
def fstE (e f : Int) : Int := if e = 0 then f else e
theorem bytes_short (lo hi g : Nat) (xs : List Int) (s : Bool) (e n : Int) (w : World) (h : At lo hi w g xs s e) (hn : s = true ∨ n < 0 ∨ (xs.length : Int) < n) :
    Calls Try.prog 23 #[.pointer (some ⟨g, 0, none⟩), .int .i64 n] w fun en w' => en = .returned (.slice none 0 0) ∧ At lo hi w' g [] true (fstE e 2) ∧ Upd g w w' := by
  have HA := Aside0.mk h
  obtain ⟨h1, A, c, h2, h3, h4⟩ := h
  obtain ⟨k0, k1, k2, f0, f1, f2⟩ := cells_of h2
  have H2 := Aside0.mk h2
  clear h2 h4
  have hu1 := Try.underlying73
  have HN : ∀ W, W = (w.setCell ⟨g, 0, none⟩ (.slice none 0 0)).setCell ⟨g, 1, none⟩ (.bool true) → At lo hi W g [] true e ∧ Upd g w W := by
    rintro W rfl
    refine ⟨⟨h1, none, 0, blk_put (blk_put H2.out 0 _ rfl) 1 _ rfl, Nat.le_refl _, Row.nil _ _ _⟩, (Upd.set _ _ _ _).trans (Upd.set _ _ _ _)⟩
  have HNN := Aside0.mk HN
  clear HN
  have fin : ∀ W, At lo hi W g [] true e → Calls Try.prog 22 #[.pointer (some ⟨g, 0, none⟩), .bool false, .int .i64 2] W fun en w' => en = .returned (.tuple #[]) ∧ At lo hi w' g [] true (fstE e 2) ∧ Upd g W w' := by
    intro W hW
    have := need_any lo hi g [] true e false 2 W hW
    simpa [fstE] using this
  have FIN := Aside0.mk fin
  clear fin
  cases s with
  | true =>
    go_enter Try.func23, Try.ntmps23
    go_wp2_with (go_at_call 22; obtain ⟨a1, a2⟩ := HNN.out _ rfl; refine (FIN.out _ a1).mono ?_; rintro en w1 ⟨rfl, b1, b2⟩; have R1 := Aside0.mk b1; have R2 := Aside0.mk (a2.trans b2); clear a1 a2 b1 b2)
    go_ret
    exact ⟨rfl, R1.out, R2.out⟩
  | false =>
    by_cases c1 : n < 0
    · go_enter Try.func23, Try.ntmps23
      go_wp2_with (go_at_call 22; obtain ⟨a1, a2⟩ := HNN.out _ rfl; refine (FIN.out _ a1).mono ?_; rintro en w1 ⟨rfl, b1, b2⟩; have R1 := Aside0.mk b1; have R2 := Aside0.mk (a2.trans b2); clear a1 a2 b1 b2)
      go_ret
      exact ⟨rfl, R1.out, R2.out⟩
    · have c2 : (xs.length : Int) < n := by rcases hn with h | h | h <;> first | cases h | exact absurd h c1 | exact h
      have c3 : decide (n > (xs.length : Int)) = true := decide_eq_true c2
      go_enter Try.func23, Try.ntmps23
      go_wp2_with (go_at_call 22; obtain ⟨a1, a2⟩ := HNN.out _ rfl; refine (FIN.out _ a1).mono ?_; rintro en w1 ⟨rfl, b1, b2⟩; have R1 := Aside0.mk b1; have R2 := Aside0.mk (a2.trans b2); clear a1 a2 b1 b2)
      go_ret
      exact ⟨rfl, R1.out, R2.out⟩
theorem Row.take {lo hi m : Nat} {w : World} {A : Option Addr} {xs : List Int} (h : Row lo hi w A xs) (hm : m ≤ xs.length) : Row lo hi w A (xs.take m) := fun W' hk => Kd.C_take (h W' hk) hm
theorem Row.drop {lo hi m c : Nat} {w : World} {A : Option Addr} {xs : List Int} (h : Row lo hi w A xs) (hm : m ≤ xs.length) (hc : xs.length ≤ c) : Row lo hi w (if c = m then A else A.map (·.add (m * 1))) (xs.drop m) := fun W' hk => Kd.C_drop (h W' hk) hm hc
theorem u8_info : ∃ i, Try.prog.info? 5 = some i ∧ i.size = 1 := by
  have h : (Try.prog.info? 5).map (·.size) = some 1 := by kernel_rfl
  obtain ⟨i, h1, h2⟩ := Option.map_eq_some_iff.1 h
  exact ⟨i, h1, h2⟩
theorem bytes_ok (lo hi g : Nat) (xs : List Int) (e : Int) (m : Nat) (w : World) (h : At lo hi w g xs false e) (hm : m ≤ xs.length) (hl : xs.length ≤ 1000000) :
    Calls Try.prog 23 #[.pointer (some ⟨g, 0, none⟩), .int .i64 m] w fun en w' => ∃ A' c', en = .returned (.slice A' (xs.take m).length c') ∧ (xs.take m).length ≤ c' ∧ Row w.heap.size w'.heap.size w' A' (xs.take m) ∧ At lo hi w' g (xs.drop m) false e ∧ Upd g w w' := by
  obtain ⟨h1, A, c, h2, h3, h4⟩ := h
  obtain ⟨k0, k1, k2, f0, f1, f2⟩ := cells_of h2
  have H2 := Aside0.mk h2
  have H4 := Aside0.mk h4
  clear h2 h4
  have hu1 := Try.underlying73
  obtain ⟨i, hi1, hi2⟩ := u8_info
  have cut1 := cut_to 22 5 .i64 Try.underlying22 hi1 A xs.length c (m : Int) (by omega) (by omega) h3
  have cut2 := cut_from 22 5 .i64 Try.underlying22 hi1 1 hi2 A xs.length c (m : Int) (by omega) (by omega)
  simp only [Int.toNat_natCast] at cut1 cut2
  obtain ⟨A2, hA2⟩ : ∃ A2, A2 = if c = m then A else A.map fun x => x.add (m * 1) := ⟨_, rfl⟩
  rw [← hA2] at cut2
  have HA2 := Aside0.mk hA2
  clear hi1 hA2
  have hlt : (xs.take m).length = m := by rw [List.length_take]; omega
  have c1 : decide ((m : Int) < 0) = false := decide_eq_false (by omega)
  have c2 : decide ((m : Int) > (xs.length : Int)) = false := decide_eq_false (by omega)
  have c3 : decide ((xs.length : Int) < (m : Int)) = false := decide_eq_false (by omega)
  have cl : Calls Try.prog 41 #[.slice A m c] w fun e w' => ∃ A' c', e = .returned (.slice A' m c') ∧ m ≤ c' ∧ Row w.heap.size w'.heap.size w' A' (xs.take m) ∧ Below w.heap.size w w' := by
    have := clone_any A c (xs.take m) w (Row.now (H4.out.take hm)) (by omega) (by omega)
    rw [hlt] at this
    exact this
  have CL := Aside0.mk cl
  clear cl
  rw [hlt]
  go_enter Try.func23, Try.ntmps23
  go_wp2_with (go_at_call 41; refine CL.out.mono ?_; rintro en w1 ⟨A', c', rfl, b1, b2, b3⟩; have q0 := (b3.cell (World.block_lt_of_cell? w _ k0)).trans k0; have z0 := (b3.frozen (World.block_lt_of_cell? w _ k0)).trans f0; have N1 := Aside0.mk b1; have N2 := Aside0.mk b2; have N3 := Aside0.mk b3; clear b1 b2 b3)
  go_ret
  have b4 := (N3.out.block _ (blk_lt H2.out)).trans H2.out
  have hgw := blk_lt H2.out
  have K := Upd.set w1 g 0 (.slice A2 (xs.length - m) (c - m))
  refine ⟨A', c', rfl, N1.out, (N2.out.on (K.kept.mono (fun k hk => .inl (by omega)))).wide (Nat.le_refl _) K.kept.1, ⟨h1, A2, c - m, ?_, ?_, ?_⟩, (Upd.of_below N3.out).trans K⟩
  · rw [List.length_drop]
    exact blk_put b4 0 _ rfl
  · rw [List.length_drop]; omega
  · have := ((H4.out.drop hm h3).on (Kept.of_below N3.out _)).on (K.kept.mono (fun k hk => .inr (by omega)))
    rw [← HA2.out] at this
    exact this
theorem at_row {lo hi : Nat} {w : World} {A : Option Addr} {xs : List Int} (h : Row lo hi w A xs) (i : Nat) (hi : i < xs.length) : ∃ ad, A = some ad ∧ w.cell? (ad.add i) = some (.int .u8 (xs.getD i 0)) := by
  obtain ⟨ad, e, h2⟩ := Kd.at_int h.now (i : Int) (by omega) (by omega)
  rw [Int.toNat_natCast] at h2
  refine ⟨ad, e, h2.trans ?_⟩
  simp [rd]
theorem byte_ok (lo hi g : Nat) (x : Int) (xs : List Int) (e : Int) (w : World) (h : At lo hi w g (x :: xs) false e) (hl : (x :: xs).length ≤ 1000000) :
    Calls Try.prog 21 #[.pointer (some ⟨g, 0, none⟩)] w fun en w' => en = .returned (.int .u8 x) ∧ At lo hi w' g xs false e ∧ Upd g w w' := by
  have HB := Aside0.mk (bytes_ok lo hi g (x :: xs) e 1 w h (by simp) hl)
  clear h
  go_enter Try.func21, Try.ntmps21
  go_wp2_with (go_at_call 23; refine HB.out.mono ?_; rintro en w1 ⟨A', c', rfl, b1, b2, b3, b4⟩; obtain ⟨ad, rfl, q0⟩ := at_row b2 0 (by simp); have N3 := Aside0.mk b3; have N4 := Aside0.mk b4; clear b1 b2 b3 b4 HB)
  have q1 : w1.cell? ad = some (.int .u8 x) := by have := q0; rw [Addr.add_zero'] at this; exact this
  clear q0
  go_loopw [8] (fun i wr => i = .int .i64 0 ∧ wr = w1) (fun i _ => 0)
  case atStart => exact ⟨rfl, rfl⟩
  case round =>
    obtain ⟨rfl, rfl⟩ := hrel
    go_wp2
    go_ret
    exact ⟨rfl, N3.out, N4.out⟩
theorem byte_short (lo hi g : Nat) (xs : List Int) (s : Bool) (e : Int) (w : World) (h : At lo hi w g xs s e) (hs : s = true ∨ xs = []) :
    Calls Try.prog 21 #[.pointer (some ⟨g, 0, none⟩)] w fun en w' => en = .returned (.int .u8 0) ∧ At lo hi w' g [] true (fstE e 2) ∧ Upd g w w' := by
  have HB := Aside0.mk (bytes_short lo hi g xs s e 1 w h (by rcases hs with h | rfl; exact .inl h; exact .inr (.inr (by simp))))
  clear h
  go_enter Try.func21, Try.ntmps21
  go_wp2_with (go_at_call 23; refine HB.out.mono ?_; rintro en w1 ⟨rfl, b3, b4⟩; have N3 := Aside0.mk b3; have N4 := Aside0.mk b4; clear b3 b4 HB)
  go_loopw [8] (fun i wr => i = .int .i64 0 ∧ wr = w1) (fun i _ => 0)
  case atStart => exact ⟨rfl, rfl⟩
  case round =>
    obtain ⟨rfl, rfl⟩ := hrel
    go_wp2
    go_ret
    exact ⟨rfl, N3.out, N4.out⟩
theorem end_any (lo hi g : Nat) (xs : List Int) (s : Bool) (e : Int) (w : World) (h : At lo hi w g xs s e) :
    Calls Try.prog 27 #[.pointer (some ⟨g, 0, none⟩)] w fun en w' => en = .returned (.tuple #[]) ∧ At lo hi w' g xs s (if xs = [] then e else fstE e 3) ∧ Upd g w w' := by
  have fin := need_any lo hi g xs s e (decide (xs = [])) 3 w h
  have hb : ((xs.length : Int) == 0) = decide (xs = []) := by cases xs <;> simp; omega
  have hb2 : (xs.length == 0) = decide (xs = []) := by cases xs <;> simp
  have e2 : (if e = 0 ∧ decide (xs = []) = false then 3 else e) = (if xs = [] then e else fstE e 3) := by
    unfold fstE
    by_cases hx : xs = [] <;> simp [hx]
  rw [e2] at fin
  clear e2
  generalize (if xs = [] then e else fstE e 3) = E at fin ⊢
  have FIN := Aside0.mk fin
  clear fin
  generalize decide (xs = []) = q at *
  obtain ⟨h1, A, c, h2, h3, h4⟩ := h
  obtain ⟨k0, k1, k2, f0, f1, f2⟩ := cells_of h2
  clear h2 h4
  have hu1 := Try.underlying73
  go_enter Try.func27, Try.ntmps27
  go_wp2_with (go_at_call 22; (try rw [hb]); refine FIN.out.mono ?_; rintro en w1 ⟨rfl, b1, b2⟩; have N1 := Aside0.mk b1; have N2 := Aside0.mk b2; clear b1 b2 FIN)
  exact bodyPost_end (results_none rfl _ _ _) rfl ⟨rfl, N1.out, N2.out⟩
end Go.Proofs.Ytdjeekpgcjcffaa.Cur
end
section
namespace Go.Proofs.Ytdjeekpgcjcffaa.P
open Go.RowKit Go.Proofs.YtdjeekpgcjcffaaW.PrintWords Go.Proofs.YtdjeekpgcjcffaaW.PrintLast Go.Proofs.YtdjeekpgcjcffaaW.PrintMore
attribute [local go_sem] max2_int min2_int max_two min_two max_three min_three max_four min_four   -- for this text's walks alone
def word_Take.l0 : Nat → List Int → List Int → Int → Option (List Int)
  | 0, _, _, _ => none
  | k + 1, x0, x3, x4 => if x4 < (x0.length : Int) then (if 0 ≤ x4 then (if 0 ≤ (wrap64 (x4 + 1)) then (if (wrap64 (x4 + 1)) < (x0.length : Int) then (if x3.length < 70368744177664 then (word_Take.l0 k x0 (x3 ++ [Go.bits .or .u16 (IntKind.u16.wrap ((IntKind.u16.wrap (rd x0 x4)) * 256)) (IntKind.u16.wrap (rd x0 (wrap64 (x4 + 1))))]) (wrap64 (x4 + 2))) else (none)) else (none)) else (none)) else (none)) else (some x3)
def word_Take.f (k : Nat) (l0 : List Int) : Option (List Int) := if ((l0.length : Int) % 2) = 0 then (word_Take.l0 k l0 ([] : List Int) 0) else (some ([] : List Int))
def word_Take.T7 : Bool × List (List Nat × List Nat) := (true, [([], []), ([], []), ([], []), ([1, 2], [1, 2]), ([3], [3]), ([4], [4]), ([5], [5]), ([], []), ([], []), ([8], [8]), ([7, 9], [7, 9]), ([10], [10]), ([11], [11]), ([6, 12], [6, 12]), ([13], [13]), ([0, 14], [0, 14]), ([15, 15, 0, 1, 2, 3, 4, 5, 6, 7, 8, 9, 10, 11, 12, 13, 14, 15], [0, 15])])
def word_Take.B7 : List Nat := [0, 0, 0, 6, 14, 30, 62, 0, 0, 256, 896, 1920, 3968, 8190, 16382, 32767, 65535]
theorem word_Take.tab7 : rtab .any (opsOf Try.f64 7) = word_Take.T7 := by kernel_rfl
theorem word_Take.bits7 : waitsOk word_Take.T7.2 word_Take.B7 = true := by kernel_rfl
theorem word_Take.calls (k : Nat) (A0 : Option Addr) (c0 : Nat) (l0 : List Int) (r : List Int) (w : World) (hr0 : Kd.C (Kd.int .u8) w A0 l0.length l0) (hc0 : l0.length ≤ c0) (h : word_Take.f k l0 = some r) :
    Calls Try.prog 64 #[.slice A0 l0.length c0] w fun e w' => ∃ v0_ : Value, e = .returned (v0_) ∧ Kd.R (Kd.int .u16) 24 w' w.heap.size (fun _ => True) v0_ r ∧ Below w.heap.size w w' := by
  have HR0 := Aside0.mk hr0
  have HC0 := Aside0.mk hc0
  clear hr0 hc0
  have HB := Aside0.mk (Below.refl w.heap.size w)
  have H : (if ((l0.length : Int) % 2) = 0 then (word_Take.l0 k l0 ([] : List Int) 0) else (some ([] : List Int))) = some r := h
  clear h
  by_cases c2 : ((l0.length : Int) % 2) = 0
  · rw [if_pos c2] at H
    have c2b0 : (((l0.length : Int) % 2) == 0) = true := beq_iff_eq.mpr c2
    have c2b1 : (((l0.length : Int) % 2) != 0) = false := bne_eq_false_iff_eq.mpr c2
    clear c2
    have H' := Aside0.mk H
    clear H
    go_enter Try.func64, Try.ntmps64
    go_wp2
    go_loopg [3, 4] k (fun kq v3 v4 w' => ∃ (x3_1 : List Int) (x4_1 : Int), v4 = .int .i64 x4_1 ∧ Aside0 (word_Take.l0 kq l0 x3_1 x4_1 = some r) ∧ Aside0 (kq ≤ k) ∧ Aside0 (Kd.R (Kd.int .u16) 24 w' w.heap.size (fun _ => True) v3 x3_1) ∧ Aside0 (Below w.heap.size w w'))
    case atStart => exact ⟨(([] : List Int)), (0), (by first | rfl | (simp; done) | (simp [*]; done)), H', ⟨Nat.le_refl _⟩, ⟨by first | exact Kd.R_nil _ _ _ _ _ | exact Kd.N_nil _ _ _ _ _ | exact Kd.V_nil _ _ _ _ _ | exact Kd.Q_nil _ _ _ _ _ | exact Kd.S_nil _ _ _ _ _⟩, ⟨by repeat (first | (with_reducible first | exact HB.out | apply below_alloc | apply pw_below_drewN | apply below_drew1) | exact HB.out)⟩⟩
    case round =>
      clear H'
      try clear c2
      try clear c2b0
      try clear c2b1
      try clear p2
      obtain ⟨x3_1, x4_1, rfl, HA, HK1, HO_3, HB⟩ := hrel
      cases gk with
      | zero => exact absurd HA.out (by simp [word_Take.l0])
      | succ k1 =>
        have H := HA.out
        clear HA
        simp only [word_Take.l0] at H
        by_cases c3 : x4_1 < (l0.length : Int)
        · rw [if_pos c3] at H
          have c3b0 : decide (x4_1 < (l0.length : Int)) = true := decide_eq_true c3
          clear c3
          by_cases c4 : 0 ≤ x4_1
          · rw [if_pos c4] at H
            have c4b0 : decide (0 ≤ x4_1) = true := decide_eq_true c4
            clear c4
            obtain ⟨ji5, hji5⟩ : ∃ j_ : Int, (wrap64 (x4_1 + 1)) = j_ := ⟨_, rfl⟩
            replace H : (if 0 ≤ (ji5) then (if (ji5) < (l0.length : Int) then (if x3_1.length < 70368744177664 then (word_Take.l0 k1 l0 (x3_1 ++ [Go.bits .or .u16 (IntKind.u16.wrap ((IntKind.u16.wrap (rd l0 x4_1)) * 256)) (IntKind.u16.wrap (rd l0 (ji5)))]) (wrap64 (x4_1 + 2))) else (none)) else (none)) else (none)) = some r := by first | (rw [hji5] at H; exact H) | (simp only [hji5] at H ⊢; exact H)
            have hji5w : (IntKind.i64.wrap (x4_1 + 1)) = ji5 := (i64_w _).trans hji5
            by_cases c6 : 0 ≤ (ji5)
            · rw [if_pos c6] at H
              have c6b0 : decide (0 ≤ (ji5)) = true := decide_eq_true c6
              clear c6
              by_cases c7 : (ji5) < (l0.length : Int)
              · rw [if_pos c7] at H
                have c7b0 : decide ((ji5) < (l0.length : Int)) = true := decide_eq_true c7
                clear c7
                by_cases c8 : x3_1.length < 70368744177664
                · rw [if_pos c8] at H
                  have LMc8 := Aside0.mk c8
                  clear c8
                  obtain ⟨y103, hy103⟩ : ∃ y_ : List Int, y_ = (x3_1 ++ [Go.bits .or .u16 (IntKind.u16.wrap ((IntKind.u16.wrap (rd l0 x4_1)) * 256)) (IntKind.u16.wrap (rd l0 (ji5)))]) := ⟨_, rfl⟩
                  replace H : (word_Take.l0 k1 l0 y103 (wrap64 (x4_1 + 2))) = some r := by first | (rw [hy103]; with_reducible exact H) | (have H2_ := (Option.bind_some _ _).symm.trans H; rw [hy103]; with_reducible exact H2_) | (have H2_ := (Option.bind_some _ _).symm.trans H; with_reducible exact H2_) | with_reducible exact H | (rw [hy103]; exact H) | exact H
                  have Ny103 := Aside0.mk hy103
                  clear hy103
                  have H' := Aside0.mk H
                  clear H
                  try go_wp2
                  have n0_ := Aside0.mk (Kd.R_drew HO_3.out)
                  have n1_ := Aside0.mk (below_drew1 HB.out)
                  clear HO_3
                  clear HB
                  have HO_3 := n0_
                  have HB := n1_
                  clear n0_ n1_
                  have p101 : 0 ≤ (x4_1 : Int) := of_decide_eq_true (by first | (with_reducible assumption) | assumption)
                  have q101 : x4_1 < (l0.length : Int) := of_decide_eq_true (by first | (with_reducible assumption) | assumption)
                  obtain ⟨ad101, e101, hx101_0⟩ := Kd.at_int HR0.out x4_1 p101 q101
                  have hw101_0 := hx101_0
                  cases e101
                  replace hx101_0 := (HB.out.cell (World.block_lt_of_cell? w _ hx101_0)).trans hx101_0
                  replace p101 := eq_true p101
                  replace q101 := eq_true q101
                  have p102 : 0 ≤ ((ji5) : Int) := of_decide_eq_true (by first | (with_reducible assumption) | assumption)
                  have q102 : (ji5) < (l0.length : Int) := of_decide_eq_true (by first | (with_reducible assumption) | assumption)
                  obtain ⟨ad102, e102, hx102_0⟩ := Kd.at_int HR0.out (ji5) p102 q102
                  have hw102_0 := hx102_0
                  obtain rfl : ad101 = ad102 := (by injection e102)
                  replace hx102_0 := (HB.out.cell (World.block_lt_of_cell? w _ hx102_0)).trans hx102_0
                  replace p102 := eq_true p102
                  replace q102 := eq_true q102
                  refine start_ (n := 17) (S := fun w' => w'.cell? (ad101.add (x4_1).toNat) = some (.int .u8 (rd l0 x4_1)) ∧ w'.cell? (ad101.add ((ji5)).toNat) = some (.int .u8 (rd l0 (ji5)))) (ds := []) #[false, false, false, false, false, false, false, false, false, false, false, false, false, false, false, false, false] (by kernel_rfl) rfl rfl ⟨((HB.out.cell (World.block_lt_of_cell? w _ hw101_0)).trans hw101_0), ((HB.out.cell (World.block_lt_of_cell? w _ hw102_0)).trans hw102_0)⟩ (fun hHeld => ?_); refine with_tabW word_Take.tab7 word_Take.bits7 (fun HT_ HW_ => ?_)
                  generalize wr.drew = w9 at HO_3 HB hx101_0 hx102_0 hHeld ⊢
                  refine pure_ (i := 0) (N := some 15) (v := ?_) (a' := ?_) #[true, false, false, false, false, false, false, false, false, false, false, false, false, false, false, false, false] rfl rfl (any_of HT_.out (by kernel_rfl)) (fun _ _ _ h => h) (Or.inl ⟨by rfl, ?_⟩) ?_ ?_
                  rotate_left
                  · intro w'
                    go_simp
                    with_reducible rfl
                  rotate_left
                  · simp only [Act.put, List.setIfInBounds_toArray, List.set_cons_zero, List.set_cons_succ, i64_w, i32_w]
                    rfl
                  refine pure_ (i := 1) (N := some 16) (v := ?_) (a' := ?_) #[true, true, false, false, false, false, false, false, false, false, false, false, false, false, false, false, false] rfl rfl (any_of HT_.out (by kernel_rfl)) (fun _ _ _ h => h) (Or.inl ⟨by rfl, ?_⟩) ?_ ?_
                  rotate_left
                  · intro w'
                    go_simp
                    with_reducible rfl
                  rotate_left
                  · simp only [Act.put, List.setIfInBounds_toArray, List.set_cons_zero, List.set_cons_succ, i64_w, i32_w]
                    rfl
                  refine pure_ (i := 2) (N := some 17) (v := ?_) (a' := ?_) #[true, true, true, false, false, false, false, false, false, false, false, false, false, false, false, false, false] rfl rfl (any_of HT_.out (by kernel_rfl)) (fun _ _ _ h => h) (Or.inl ⟨by rfl, ?_⟩) ?_ ?_
                  rotate_left
                  · intro w'
                    go_simp
                    with_reducible rfl
                  rotate_left
                  · simp only [Act.put, List.setIfInBounds_toArray, List.set_cons_zero, List.set_cons_succ, i64_w, i32_w]
                    rfl
                  refine pure_ (i := 3) (N := some 18) (v := ?_) (a' := ?_) #[true, true, true, true, false, false, false, false, false, false, false, false, false, false, false, false, false] rfl rfl (any_of HT_.out (by kernel_rfl)) (fun _ _ _ h => h) (Or.inl ⟨by rfl, ?_⟩) ?_ ?_
                  rotate_left
                  · intro w'
                    go_simp
                    with_reducible rfl
                  rotate_left
                  · simp only [Act.put, List.setIfInBounds_toArray, List.set_cons_zero, List.set_cons_succ, i64_w, i32_w]
                    rfl
                  refine pure_ (i := 7) (N := some 22) (v := ?_) (a' := ?_) #[true, true, true, true, false, false, false, true, false, false, false, false, false, false, false, false, false] rfl rfl (any_of HT_.out (by kernel_rfl)) (fun _ _ _ h => h) (Or.inl ⟨by rfl, ?_⟩) ?_ ?_
                  rotate_left
                  · intro w'
                    go_simp
                    with_reducible rfl
                  rotate_left
                  · simp only [Act.put, List.setIfInBounds_toArray, List.set_cons_zero, List.set_cons_succ, i64_w, i32_w]
                    rfl
                  refine pure_ (i := 8) (N := some 23) (v := ?_) (a' := ?_) #[true, true, true, true, false, false, false, true, true, false, false, false, false, false, false, false, false] rfl rfl (any_of HT_.out (by kernel_rfl)) (fun _ _ _ h => h) (Or.inl ⟨by rfl, ?_⟩) ?_ ?_
                  rotate_left
                  · intro w'
                    go_simp
                    with_reducible rfl
                  rotate_left
                  · simp only [Act.put, List.setIfInBounds_toArray, List.set_cons_zero, List.set_cons_succ, i64_w, i32_w]
                    rfl
                  refine pure_ (i := 9) (N := some 24) (v := ?_) (a' := ?_) #[true, true, true, true, false, false, false, true, true, true, false, false, false, false, false, false, false] rfl rfl (any_of HT_.out (by kernel_rfl)) (fun _ _ _ h => h) (Or.inl ⟨by rfl, ?_⟩) ?_ ?_
                  rotate_left
                  · intro w'
                    go_simp
                    with_reducible rfl
                  rotate_left
                  · simp only [Act.put, List.setIfInBounds_toArray, List.set_cons_zero, List.set_cons_succ, i64_w, i32_w]
                    rfl
                  refine pure_ (i := 10) (N := some 25) (v := ?_) (a' := ?_) #[true, true, true, true, false, false, false, true, true, true, true, false, false, false, false, false, false] rfl rfl (any_of HT_.out (by kernel_rfl)) (fun _ _ _ h => h) (Or.inl ⟨by rfl, ?_⟩) ?_ ?_
                  rotate_left
                  · intro w'
                    go_simp
                    with_reducible rfl
                  rotate_left
                  · simp only [Act.put, List.setIfInBounds_toArray, List.set_cons_zero, List.set_cons_succ, i64_w, i32_w]
                    rfl
                  refine take_ (i := 4) (N := some 19) (v := ?_) (a' := ?_) #[true, true, true, true, true, false, false, true, true, true, true, false, false, false, false, false, false] rfl rfl (take_ofW HT_.out HW_.out (by kernel_rfl)) (fun _ _ _ h => h) (Or.inl ⟨by rfl, ?_⟩) hHeld ?_ ?_
                  rotate_left
                  · rintro w' ⟨s0, s1⟩
                    go_simp
                    with_reducible rfl
                  rotate_left
                  · simp only [Act.put, List.setIfInBounds_toArray, List.set_cons_zero, List.set_cons_succ, i64_w, i32_w]
                    rfl
                  refine pure_ (i := 5) (N := some 20) (v := ?_) (a' := ?_) #[true, true, true, true, true, true, false, true, true, true, true, false, false, false, false, false, false] rfl rfl (any_of HT_.out (by kernel_rfl)) (fun _ _ _ h => h) (Or.inl ⟨by rfl, ?_⟩) ?_ ?_
                  rotate_left
                  · intro w'
                    go_simp
                    with_reducible rfl
                  rotate_left
                  · simp only [Act.put, List.setIfInBounds_toArray, List.set_cons_zero, List.set_cons_succ, i64_w, i32_w]
                    rfl
                  refine pure_ (i := 6) (N := some 21) (v := ?_) (a' := ?_) #[true, true, true, true, true, true, true, true, true, true, true, false, false, false, false, false, false] rfl rfl (any_of HT_.out (by kernel_rfl)) (fun _ _ _ h => h) (Or.inl ⟨by rfl, ?_⟩) ?_ ?_
                  rotate_left
                  · intro w'
                    go_simp
                    with_reducible rfl
                  rotate_left
                  · simp only [Act.put, List.setIfInBounds_toArray, List.set_cons_zero, List.set_cons_succ, i64_w, i32_w]
                    rfl
                  refine take_ (i := 11) (N := some 26) (v := ?_) (a' := ?_) #[true, true, true, true, true, true, true, true, true, true, true, true, false, false, false, false, false] rfl rfl (take_ofW HT_.out HW_.out (by kernel_rfl)) (fun _ _ _ h => h) (Or.inl ⟨by rfl, ?_⟩) hHeld ?_ ?_
                  rotate_left
                  · rintro w' ⟨s0, s1⟩
                    go_simp
                    with_reducible rfl
                  rotate_left
                  · simp only [Act.put, List.setIfInBounds_toArray, List.set_cons_zero, List.set_cons_succ, i64_w, i32_w]
                    rfl
                  refine pure_ (i := 12) (N := some 27) (v := ?_) (a' := ?_) #[true, true, true, true, true, true, true, true, true, true, true, true, true, false, false, false, false] rfl rfl (any_of HT_.out (by kernel_rfl)) (fun _ _ _ h => h) (Or.inl ⟨by rfl, ?_⟩) ?_ ?_
                  rotate_left
                  · intro w'
                    go_simp
                    with_reducible rfl
                  rotate_left
                  · simp only [Act.put, List.setIfInBounds_toArray, List.set_cons_zero, List.set_cons_succ, i64_w, i32_w]
                    rfl
                  refine pure_ (i := 13) (N := some 28) (v := ?_) (a' := ?_) #[true, true, true, true, true, true, true, true, true, true, true, true, true, true, false, false, false] rfl rfl (any_of HT_.out (by kernel_rfl)) (fun _ _ _ h => h) (Or.inl ⟨by rfl, ?_⟩) ?_ ?_
                  rotate_left
                  · intro w'
                    go_simp
                    with_reducible rfl
                  rotate_left
                  · simp only [Act.put, List.setIfInBounds_toArray, List.set_cons_zero, List.set_cons_succ, i64_w, i32_w]
                    rfl
                  refine one_ (i := 14) (N := some 29) #[true, true, true, true, true, true, true, true, true, true, true, true, true, true, true, false, false] rfl rfl (one_of HT_.out (by kernel_rfl)) (by decide) (fun K hK => ?_)
                  refine value_ (w1 := ?_) (v := ?_) (by rfl) rfl ?_ ?_
                  rotate_left 2
                  · go_simp
                    constructor
                    · rfl
                    · rfl
                  refine hK.out _ _ ⟨(World.cell?_alloc_lt _ _ _ (World.block_lt_of_cell? _ _ (((HB.out.cell (World.block_lt_of_cell? w _ hw101_0)).trans hw101_0)))).trans (((HB.out.cell (World.block_lt_of_cell? w _ hw101_0)).trans hw101_0)), (World.cell?_alloc_lt _ _ _ (World.block_lt_of_cell? _ _ (((HB.out.cell (World.block_lt_of_cell? w _ hw102_0)).trans hw102_0)))).trans (((HB.out.cell (World.block_lt_of_cell? w _ hw102_0)).trans hw102_0))⟩ (fun hHeld => ?_)
                  clear hK K
                  refine norm_ (a' := ?_) ?_ ?_
                  rotate_left
                  · show Act.put _ (some 29) _ = _
                    simp only [Act.put, List.setIfInBounds_toArray, List.set_cons_zero, List.set_cons_succ, i64_w, i32_w]
                    rfl
                  refine one_ (i := 15) (N := some 30) #[true, true, true, true, true, true, true, true, true, true, true, true, true, true, true, true, false] rfl rfl (one_of HT_.out (by kernel_rfl)) (by decide) (fun K hK => ?_)
                  refine Kd.R_append_step (Kd.int .u16) (w0 := w) w.heap.size (by rfl) (.tmp 15) (.tmp 29) 25 24 (.int .u16 0) 2 rfl Try.underlying25 info24 rfl (by decide) (by omega) u3 x3_1 (Go.bits .or .u16 (IntKind.u16.wrap ((IntKind.u16.wrap (rd l0 x4_1)) * 256)) (IntKind.u16.wrap (rd l0 (ji5)))) [.int .u16 (Go.bits .or .u16 (IntKind.u16.wrap ((IntKind.u16.wrap (rd l0 x4_1)) * 256)) (IntKind.u16.wrap (rd l0 (ji5))))] (fun _ => True) (fun _ => False) rfl rfl ?aP (fun _ hk => hk.elim) ?aF ?aO ?aB ?aS ?aL ?_
                  (case aP => exact rfl)
                  (case aB => exact (by repeat (first | (with_reducible first | exact HB.out | apply below_alloc | apply pw_below_drewN | apply below_drew1) | exact HB.out)))
                  (case aF => exact (fun _ _ => trivial))
                  (case aO => exact (by (with_reducible repeat (first | apply Kd.R_alloc | apply Kd.R_drewN | apply Kd.R_drew)); exact HO_3.out))
                  (case aS => exact (below_size (by repeat (first | (with_reducible first | exact HB.out | apply below_alloc | apply pw_below_drewN | apply below_drew1) | exact HB.out))))
                  (case aL => have := LMc8.out; omega)
                  intro v104 w10 ho hb hg hat
                  rw [← Ny103.out] at ho
                  have n0_ := Aside0.mk (hb)
                  have n1_ := Aside0.mk (ho)
                  clear HB
                  clear HO_3
                  have HB := n0_
                  have HO105 := n1_
                  clear n0_ n1_
                  clear ho hb hg hat
                  refine hK.out _ _ ⟨((HB.out.cell (World.block_lt_of_cell? w _ hw101_0)).trans hw101_0), ((HB.out.cell (World.block_lt_of_cell? w _ hw102_0)).trans hw102_0)⟩ (fun hHeld => ?_)
                  clear hK K
                  refine norm_ (a' := ?_) ?_ ?_
                  rotate_left
                  · show Act.put _ (some 30) _ = _
                    simp only [Act.put, List.setIfInBounds_toArray, List.set_cons_zero, List.set_cons_succ, i64_w, i32_w]
                    rfl
                  refine pure_ (i := 16) (N := some 3) (v := ?_) (a' := ?_) #[true, true, true, true, true, true, true, true, true, true, true, true, true, true, true, true, true] rfl rfl (any_of HT_.out (by kernel_rfl)) (fun _ _ _ h => h) (Or.inl ⟨by rfl, ?_⟩) ?_ ?_
                  rotate_left
                  · intro w'
                    go_simp
                    with_reducible rfl
                  rotate_left
                  · simp only [Act.put, List.setIfInBounds_toArray, List.set_cons_zero, List.set_cons_succ, i64_w, i32_w]
                    rfl
                  refine done_ (done_of HT_.out (by kernel_rfl)) ?_
                  try go_wp2
                  go_roundg k1
                  case measure => have := HK1.out; omega
                  case rel => exact ⟨(y103), (wrap64 (x4_1 + 2)), (by first | rfl | (simp; done) | (simp [*]; done)), H', ⟨by have := HK1.out; omega⟩, ⟨by (with_reducible repeat (first | apply Kd.R_alloc | apply Kd.R_drewN | apply Kd.R_drew)); exact HO105.out⟩, ⟨by repeat (first | (with_reducible first | exact HB.out | apply below_alloc | apply pw_below_drewN | apply below_drew1) | exact HB.out)⟩⟩
                · rw [if_neg c8] at H
                  exact absurd H (by simp)
              · rw [if_neg c7] at H
                exact absurd H (by simp)
            · rw [if_neg c6] at H
              exact absurd H (by simp)
          · rw [if_neg c4] at H
            exact absurd H (by simp)
        · rw [if_neg c3] at H
          have c3b0 : decide (x4_1 < (l0.length : Int)) = false := decide_eq_false c3
          clear c3
          obtain rfl := Option.some.inj H
          go_wp2
          go_ret
          exact ⟨_, by first | rfl | (simp [errW_none, errW_some] <;> rfl) | (simp [*, errW_none, errW_some] <;> rfl), by (with_reducible repeat (first | apply Kd.R_alloc | apply Kd.R_drewN | apply Kd.R_drew)); exact HO_3.out, by repeat (first | (with_reducible first | exact HB.out | apply below_alloc | apply pw_below_drewN | apply below_drew1) | exact HB.out)⟩
  · rw [if_neg c2] at H
    have c2b0 : (((l0.length : Int) % 2) == 0) = false := beq_eq_false_iff_ne.mpr c2
    have c2b1 : (((l0.length : Int) % 2) != 0) = true := bne_iff_ne.mpr c2
    obtain rfl := Option.some.inj H
    go_enter Try.func64, Try.ntmps64
    go_wp2
    go_ret
    exact ⟨_, by first | rfl | (simp [errW_none, errW_some] <;> rfl) | (simp [*, errW_none, errW_some] <;> rfl), by first | exact Kd.R_nil _ _ _ _ _ | exact Kd.N_nil _ _ _ _ _ | exact Kd.V_nil _ _ _ _ _ | exact Kd.Q_nil _ _ _ _ _ | exact Kd.S_nil _ _ _ _ _, by repeat (first | (with_reducible first | exact HB.out | apply below_alloc | apply pw_below_drewN | apply below_drew1) | exact HB.out)⟩
end Go.Proofs.Ytdjeekpgcjcffaa.P
end
section
namespace Go.Proofs.Ytdjeekpgcjcffaa.P
open Go.RowKit Go.Proofs.YtdjeekpgcjcffaaW.PrintWords Go.Proofs.YtdjeekpgcjcffaaW.PrintLast Go.Proofs.YtdjeekpgcjcffaaW.PrintMore
attribute [local go_sem] max2_int min2_int max_two min_two max_three min_three max_four min_four   -- for this text's walks alone
def busbarref04_Take.l0 : Nat → List Int → List Int → Int → Option (List Int)
  | 0, _, _, _ => none
  | k + 1, x0, x3, x4 => if (wrap64 (x4 + 1)) < (x0.length : Int) then (if 0 ≤ x4 then (if x4 < (x0.length : Int) then (if 0 ≤ (wrap64 (x4 + 1)) then (if x3.length < 70368744177664 then (busbarref04_Take.l0 k x0 (x3 ++ [IntKind.u16.wrap ((IntKind.u16.wrap (256 * (IntKind.u16.wrap (rd x0 x4)))) + (IntKind.u16.wrap (rd x0 (wrap64 (x4 + 1)))))]) (wrap64 (x4 + 2))) else (none)) else (none)) else (none)) else (none)) else (some x3)
def busbarref04_Take.f (k : Nat) (l0 : List Int) : Option (List Int) := if ((l0.length : Int) % 2) = 1 then (some ([] : List Int)) else (busbarref04_Take.l0 k l0 ([] : List Int) 0)
def busbarref04_Take.T7 : Bool × List (List Nat × List Nat) := (true, [([], []), ([], []), ([], []), ([1, 2], [1, 2]), ([3], [3]), ([4], [4]), ([5], [5]), ([], []), ([], []), ([8], [8]), ([7, 9], [7, 9]), ([10], [10]), ([11], [11]), ([6, 12], [6, 12]), ([13], [13]), ([0, 14], [0, 14]), ([15, 15, 0, 1, 2, 3, 4, 5, 6, 7, 8, 9, 10, 11, 12, 13, 14, 15], [0, 15])])
def busbarref04_Take.B7 : List Nat := [0, 0, 0, 6, 14, 30, 62, 0, 0, 256, 896, 1920, 3968, 8190, 16382, 32767, 65535]
theorem busbarref04_Take.tab7 : rtab .any (opsOf Try.f61 7) = busbarref04_Take.T7 := by kernel_rfl
theorem busbarref04_Take.bits7 : waitsOk busbarref04_Take.T7.2 busbarref04_Take.B7 = true := by kernel_rfl
theorem busbarref04_Take.calls (k : Nat) (A0 : Option Addr) (c0 : Nat) (l0 : List Int) (r : List Int) (w : World) (hr0 : Kd.C (Kd.int .u8) w A0 l0.length l0) (hc0 : l0.length ≤ c0) (h : busbarref04_Take.f k l0 = some r) :
    Calls Try.prog 61 #[.slice A0 l0.length c0] w fun e w' => ∃ v0_ : Value, e = .returned (v0_) ∧ Kd.R (Kd.int .u16) 24 w' w.heap.size (fun _ => True) v0_ r ∧ Below w.heap.size w w' := by
  have HR0 := Aside0.mk hr0
  have HC0 := Aside0.mk hc0
  clear hr0 hc0
  have HB := Aside0.mk (Below.refl w.heap.size w)
  have H : (if ((l0.length : Int) % 2) = 1 then (some ([] : List Int)) else (busbarref04_Take.l0 k l0 ([] : List Int) 0)) = some r := h
  clear h
  by_cases c2 : ((l0.length : Int) % 2) = 1
  · rw [if_pos c2] at H
    have c2b0 : (((l0.length : Int) % 2) == 1) = true := beq_iff_eq.mpr c2
    have c2b1 : (((l0.length : Int) % 2) != 1) = false := bne_eq_false_iff_eq.mpr c2
    clear c2
    obtain rfl := Option.some.inj H
    go_enter Try.func61, Try.ntmps61
    go_wp2
    go_ret
    exact ⟨_, by first | rfl | (simp [errW_none, errW_some] <;> rfl) | (simp [*, errW_none, errW_some] <;> rfl), by first | exact Kd.R_nil _ _ _ _ _ | exact Kd.N_nil _ _ _ _ _ | exact Kd.V_nil _ _ _ _ _ | exact Kd.Q_nil _ _ _ _ _ | exact Kd.S_nil _ _ _ _ _, by repeat (first | (with_reducible first | exact HB.out | apply below_alloc | apply pw_below_drewN | apply below_drew1) | exact HB.out)⟩
  · rw [if_neg c2] at H
    have c2b0 : (((l0.length : Int) % 2) == 1) = false := beq_eq_false_iff_ne.mpr c2
    have c2b1 : (((l0.length : Int) % 2) != 1) = true := bne_iff_ne.mpr c2
    have H' := Aside0.mk H
    clear H
    go_enter Try.func61, Try.ntmps61
    go_wp2
    go_loopg [3, 4] k (fun kq v3 v4 w' => ∃ (x3_1 : List Int) (x4_1 : Int), v4 = .int .i64 x4_1 ∧ Aside0 (busbarref04_Take.l0 kq l0 x3_1 x4_1 = some r) ∧ Aside0 (kq ≤ k) ∧ Aside0 (Kd.R (Kd.int .u16) 24 w' w.heap.size (fun _ => True) v3 x3_1) ∧ Aside0 (Below w.heap.size w w'))
    case atStart => exact ⟨(([] : List Int)), (0), (by first | rfl | (simp; done) | (simp [*]; done)), H', ⟨Nat.le_refl _⟩, ⟨by first | exact Kd.R_nil _ _ _ _ _ | exact Kd.N_nil _ _ _ _ _ | exact Kd.V_nil _ _ _ _ _ | exact Kd.Q_nil _ _ _ _ _ | exact Kd.S_nil _ _ _ _ _⟩, ⟨by repeat (first | (with_reducible first | exact HB.out | apply below_alloc | apply pw_below_drewN | apply below_drew1) | exact HB.out)⟩⟩
    case round =>
      clear H'
      try clear c2
      try clear c2b0
      try clear c2b1
      try clear p2
      obtain ⟨x3_1, x4_1, rfl, HA, HK1, HO_3, HB⟩ := hrel
      cases gk with
      | zero => exact absurd HA.out (by simp [busbarref04_Take.l0])
      | succ k1 =>
        have H := HA.out
        clear HA
        simp only [busbarref04_Take.l0] at H
        by_cases c3 : (wrap64 (x4_1 + 1)) < (l0.length : Int)
        · rw [if_pos c3] at H
          have c3b0 : decide ((wrap64 (x4_1 + 1)) < (l0.length : Int)) = true := decide_eq_true c3
          clear c3
          by_cases c4 : 0 ≤ x4_1
          · rw [if_pos c4] at H
            have c4b0 : decide (0 ≤ x4_1) = true := decide_eq_true c4
            clear c4
            by_cases c5 : x4_1 < (l0.length : Int)
            · rw [if_pos c5] at H
              have c5b0 : decide (x4_1 < (l0.length : Int)) = true := decide_eq_true c5
              clear c5
              obtain ⟨ji6, hji6⟩ : ∃ j_ : Int, (wrap64 (x4_1 + 1)) = j_ := ⟨_, rfl⟩
              replace H : (if 0 ≤ (ji6) then (if x3_1.length < 70368744177664 then (busbarref04_Take.l0 k1 l0 (x3_1 ++ [IntKind.u16.wrap ((IntKind.u16.wrap (256 * (IntKind.u16.wrap (rd l0 x4_1)))) + (IntKind.u16.wrap (rd l0 (ji6))))]) (wrap64 (x4_1 + 2))) else (none)) else (none)) = some r := by first | (rw [hji6] at H; exact H) | (simp only [hji6] at H ⊢; exact H)
              (try rw [hji6] at c3b0)
              have hji6w : (IntKind.i64.wrap (x4_1 + 1)) = ji6 := (i64_w _).trans hji6
              by_cases c7 : 0 ≤ (ji6)
              · rw [if_pos c7] at H
                have c7b0 : decide (0 ≤ (ji6)) = true := decide_eq_true c7
                clear c7
                by_cases c8 : x3_1.length < 70368744177664
                · rw [if_pos c8] at H
                  have LMc8 := Aside0.mk c8
                  clear c8
                  obtain ⟨y188, hy188⟩ : ∃ y_ : List Int, y_ = (x3_1 ++ [IntKind.u16.wrap ((IntKind.u16.wrap (256 * (IntKind.u16.wrap (rd l0 x4_1)))) + (IntKind.u16.wrap (rd l0 (ji6))))]) := ⟨_, rfl⟩
                  replace H : (busbarref04_Take.l0 k1 l0 y188 (wrap64 (x4_1 + 2))) = some r := by first | (rw [hy188]; with_reducible exact H) | (have H2_ := (Option.bind_some _ _).symm.trans H; rw [hy188]; with_reducible exact H2_) | (have H2_ := (Option.bind_some _ _).symm.trans H; with_reducible exact H2_) | with_reducible exact H | (rw [hy188]; exact H) | exact H
                  have Ny188 := Aside0.mk hy188
                  clear hy188
                  have H' := Aside0.mk H
                  clear H
                  try go_wp2
                  have n0_ := Aside0.mk (Kd.R_drew HO_3.out)
                  have n1_ := Aside0.mk (below_drew1 HB.out)
                  clear HO_3
                  clear HB
                  have HO_3 := n0_
                  have HB := n1_
                  clear n0_ n1_
                  have p186 : 0 ≤ (x4_1 : Int) := of_decide_eq_true (by first | (with_reducible assumption) | assumption)
                  have q186 : x4_1 < (l0.length : Int) := of_decide_eq_true (by first | (with_reducible assumption) | assumption)
                  obtain ⟨ad186, e186, hx186_0⟩ := Kd.at_int HR0.out x4_1 p186 q186
                  have hw186_0 := hx186_0
                  cases e186
                  replace hx186_0 := (HB.out.cell (World.block_lt_of_cell? w _ hx186_0)).trans hx186_0
                  replace p186 := eq_true p186
                  replace q186 := eq_true q186
                  have p187 : 0 ≤ ((ji6) : Int) := of_decide_eq_true (by first | (with_reducible assumption) | assumption)
                  have q187 : (ji6) < (l0.length : Int) := of_decide_eq_true (by first | (with_reducible assumption) | assumption)
                  obtain ⟨ad187, e187, hx187_0⟩ := Kd.at_int HR0.out (ji6) p187 q187
                  have hw187_0 := hx187_0
                  obtain rfl : ad186 = ad187 := (by injection e187)
                  replace hx187_0 := (HB.out.cell (World.block_lt_of_cell? w _ hx187_0)).trans hx187_0
                  replace p187 := eq_true p187
                  replace q187 := eq_true q187
                  refine start_ (n := 17) (S := fun w' => w'.cell? (ad186.add (x4_1).toNat) = some (.int .u8 (rd l0 x4_1)) ∧ w'.cell? (ad186.add ((ji6)).toNat) = some (.int .u8 (rd l0 (ji6)))) (ds := []) #[false, false, false, false, false, false, false, false, false, false, false, false, false, false, false, false, false] (by kernel_rfl) rfl rfl ⟨((HB.out.cell (World.block_lt_of_cell? w _ hw186_0)).trans hw186_0), ((HB.out.cell (World.block_lt_of_cell? w _ hw187_0)).trans hw187_0)⟩ (fun hHeld => ?_); refine with_tabW busbarref04_Take.tab7 busbarref04_Take.bits7 (fun HT_ HW_ => ?_)
                  generalize wr.drew = w9 at HO_3 HB hx186_0 hx187_0 hHeld ⊢
                  refine pure_ (i := 0) (N := some 16) (v := ?_) (a' := ?_) #[true, false, false, false, false, false, false, false, false, false, false, false, false, false, false, false, false] rfl rfl (any_of HT_.out (by kernel_rfl)) (fun _ _ _ h => h) (Or.inl ⟨by rfl, ?_⟩) ?_ ?_
                  rotate_left
                  · intro w'
                    go_simp
                    with_reducible rfl
                  rotate_left
                  · simp only [Act.put, List.setIfInBounds_toArray, List.set_cons_zero, List.set_cons_succ, i64_w, i32_w]
                    rfl
                  refine pure_ (i := 1) (N := some 17) (v := ?_) (a' := ?_) #[true, true, false, false, false, false, false, false, false, false, false, false, false, false, false, false, false] rfl rfl (any_of HT_.out (by kernel_rfl)) (fun _ _ _ h => h) (Or.inl ⟨by rfl, ?_⟩) ?_ ?_
                  rotate_left
                  · intro w'
                    go_simp
                    with_reducible rfl
                  rotate_left
                  · simp only [Act.put, List.setIfInBounds_toArray, List.set_cons_zero, List.set_cons_succ, i64_w, i32_w]
                    rfl
                  refine pure_ (i := 2) (N := some 18) (v := ?_) (a' := ?_) #[true, true, true, false, false, false, false, false, false, false, false, false, false, false, false, false, false] rfl rfl (any_of HT_.out (by kernel_rfl)) (fun _ _ _ h => h) (Or.inl ⟨by rfl, ?_⟩) ?_ ?_
                  rotate_left
                  · intro w'
                    go_simp
                    with_reducible rfl
                  rotate_left
                  · simp only [Act.put, List.setIfInBounds_toArray, List.set_cons_zero, List.set_cons_succ, i64_w, i32_w]
                    rfl
                  refine pure_ (i := 3) (N := some 19) (v := ?_) (a' := ?_) #[true, true, true, true, false, false, false, false, false, false, false, false, false, false, false, false, false] rfl rfl (any_of HT_.out (by kernel_rfl)) (fun _ _ _ h => h) (Or.inl ⟨by rfl, ?_⟩) ?_ ?_
                  rotate_left
                  · intro w'
                    go_simp
                    with_reducible rfl
                  rotate_left
                  · simp only [Act.put, List.setIfInBounds_toArray, List.set_cons_zero, List.set_cons_succ, i64_w, i32_w]
                    rfl
                  refine pure_ (i := 7) (N := some 23) (v := ?_) (a' := ?_) #[true, true, true, true, false, false, false, true, false, false, false, false, false, false, false, false, false] rfl rfl (any_of HT_.out (by kernel_rfl)) (fun _ _ _ h => h) (Or.inl ⟨by rfl, ?_⟩) ?_ ?_
                  rotate_left
                  · intro w'
                    go_simp
                    with_reducible rfl
                  rotate_left
                  · simp only [Act.put, List.setIfInBounds_toArray, List.set_cons_zero, List.set_cons_succ, i64_w, i32_w]
                    rfl
                  refine pure_ (i := 8) (N := some 24) (v := ?_) (a' := ?_) #[true, true, true, true, false, false, false, true, true, false, false, false, false, false, false, false, false] rfl rfl (any_of HT_.out (by kernel_rfl)) (fun _ _ _ h => h) (Or.inl ⟨by rfl, ?_⟩) ?_ ?_
                  rotate_left
                  · intro w'
                    go_simp
                    with_reducible rfl
                  rotate_left
                  · simp only [Act.put, List.setIfInBounds_toArray, List.set_cons_zero, List.set_cons_succ, i64_w, i32_w]
                    rfl
                  refine pure_ (i := 9) (N := some 25) (v := ?_) (a' := ?_) #[true, true, true, true, false, false, false, true, true, true, false, false, false, false, false, false, false] rfl rfl (any_of HT_.out (by kernel_rfl)) (fun _ _ _ h => h) (Or.inl ⟨by rfl, ?_⟩) ?_ ?_
                  rotate_left
                  · intro w'
                    go_simp
                    with_reducible rfl
                  rotate_left
                  · simp only [Act.put, List.setIfInBounds_toArray, List.set_cons_zero, List.set_cons_succ, i64_w, i32_w]
                    rfl
                  refine pure_ (i := 10) (N := some 26) (v := ?_) (a' := ?_) #[true, true, true, true, false, false, false, true, true, true, true, false, false, false, false, false, false] rfl rfl (any_of HT_.out (by kernel_rfl)) (fun _ _ _ h => h) (Or.inl ⟨by rfl, ?_⟩) ?_ ?_
                  rotate_left
                  · intro w'
                    go_simp
                    with_reducible rfl
                  rotate_left
                  · simp only [Act.put, List.setIfInBounds_toArray, List.set_cons_zero, List.set_cons_succ, i64_w, i32_w]
                    rfl
                  refine take_ (i := 4) (N := some 20) (v := ?_) (a' := ?_) #[true, true, true, true, true, false, false, true, true, true, true, false, false, false, false, false, false] rfl rfl (take_ofW HT_.out HW_.out (by kernel_rfl)) (fun _ _ _ h => h) (Or.inl ⟨by rfl, ?_⟩) hHeld ?_ ?_
                  rotate_left
                  · rintro w' ⟨s0, s1⟩
                    go_simp
                    with_reducible rfl
                  rotate_left
                  · simp only [Act.put, List.setIfInBounds_toArray, List.set_cons_zero, List.set_cons_succ, i64_w, i32_w]
                    rfl
                  refine pure_ (i := 5) (N := some 21) (v := ?_) (a' := ?_) #[true, true, true, true, true, true, false, true, true, true, true, false, false, false, false, false, false] rfl rfl (any_of HT_.out (by kernel_rfl)) (fun _ _ _ h => h) (Or.inl ⟨by rfl, ?_⟩) ?_ ?_
                  rotate_left
                  · intro w'
                    go_simp
                    with_reducible rfl
                  rotate_left
                  · simp only [Act.put, List.setIfInBounds_toArray, List.set_cons_zero, List.set_cons_succ, i64_w, i32_w]
                    rfl
                  refine pure_ (i := 6) (N := some 22) (v := ?_) (a' := ?_) #[true, true, true, true, true, true, true, true, true, true, true, false, false, false, false, false, false] rfl rfl (any_of HT_.out (by kernel_rfl)) (fun _ _ _ h => h) (Or.inl ⟨by rfl, ?_⟩) ?_ ?_
                  rotate_left
                  · intro w'
                    go_simp
                    with_reducible rfl
                  rotate_left
                  · simp only [Act.put, List.setIfInBounds_toArray, List.set_cons_zero, List.set_cons_succ, i64_w, i32_w]
                    rfl
                  refine take_ (i := 11) (N := some 27) (v := ?_) (a' := ?_) #[true, true, true, true, true, true, true, true, true, true, true, true, false, false, false, false, false] rfl rfl (take_ofW HT_.out HW_.out (by kernel_rfl)) (fun _ _ _ h => h) (Or.inl ⟨by rfl, ?_⟩) hHeld ?_ ?_
                  rotate_left
                  · rintro w' ⟨s0, s1⟩
                    go_simp
                    with_reducible rfl
                  rotate_left
                  · simp only [Act.put, List.setIfInBounds_toArray, List.set_cons_zero, List.set_cons_succ, i64_w, i32_w]
                    rfl
                  refine pure_ (i := 12) (N := some 28) (v := ?_) (a' := ?_) #[true, true, true, true, true, true, true, true, true, true, true, true, true, false, false, false, false] rfl rfl (any_of HT_.out (by kernel_rfl)) (fun _ _ _ h => h) (Or.inl ⟨by rfl, ?_⟩) ?_ ?_
                  rotate_left
                  · intro w'
                    go_simp
                    with_reducible rfl
                  rotate_left
                  · simp only [Act.put, List.setIfInBounds_toArray, List.set_cons_zero, List.set_cons_succ, i64_w, i32_w]
                    rfl
                  refine pure_ (i := 13) (N := some 29) (v := ?_) (a' := ?_) #[true, true, true, true, true, true, true, true, true, true, true, true, true, true, false, false, false] rfl rfl (any_of HT_.out (by kernel_rfl)) (fun _ _ _ h => h) (Or.inl ⟨by rfl, ?_⟩) ?_ ?_
                  rotate_left
                  · intro w'
                    go_simp
                    with_reducible rfl
                  rotate_left
                  · simp only [Act.put, List.setIfInBounds_toArray, List.set_cons_zero, List.set_cons_succ, i64_w, i32_w]
                    rfl
                  refine one_ (i := 14) (N := some 30) #[true, true, true, true, true, true, true, true, true, true, true, true, true, true, true, false, false] rfl rfl (one_of HT_.out (by kernel_rfl)) (by decide) (fun K hK => ?_)
                  refine value_ (w1 := ?_) (v := ?_) (by rfl) rfl ?_ ?_
                  rotate_left 2
                  · go_simp
                    constructor
                    · rfl
                    · rfl
                  refine hK.out _ _ ⟨(World.cell?_alloc_lt _ _ _ (World.block_lt_of_cell? _ _ (((HB.out.cell (World.block_lt_of_cell? w _ hw186_0)).trans hw186_0)))).trans (((HB.out.cell (World.block_lt_of_cell? w _ hw186_0)).trans hw186_0)), (World.cell?_alloc_lt _ _ _ (World.block_lt_of_cell? _ _ (((HB.out.cell (World.block_lt_of_cell? w _ hw187_0)).trans hw187_0)))).trans (((HB.out.cell (World.block_lt_of_cell? w _ hw187_0)).trans hw187_0))⟩ (fun hHeld => ?_)
                  clear hK K
                  refine norm_ (a' := ?_) ?_ ?_
                  rotate_left
                  · show Act.put _ (some 30) _ = _
                    simp only [Act.put, List.setIfInBounds_toArray, List.set_cons_zero, List.set_cons_succ, i64_w, i32_w]
                    rfl
                  refine one_ (i := 15) (N := some 31) #[true, true, true, true, true, true, true, true, true, true, true, true, true, true, true, true, false] rfl rfl (one_of HT_.out (by kernel_rfl)) (by decide) (fun K hK => ?_)
                  refine Kd.R_append_step (Kd.int .u16) (w0 := w) w.heap.size (by rfl) (.tmp 16) (.tmp 30) 25 24 (.int .u16 0) 2 rfl Try.underlying25 info24 rfl (by decide) (by omega) u3 x3_1 (IntKind.u16.wrap ((IntKind.u16.wrap (256 * (IntKind.u16.wrap (rd l0 x4_1)))) + (IntKind.u16.wrap (rd l0 (ji6))))) [.int .u16 (IntKind.u16.wrap ((IntKind.u16.wrap (256 * (IntKind.u16.wrap (rd l0 x4_1)))) + (IntKind.u16.wrap (rd l0 (ji6)))))] (fun _ => True) (fun _ => False) rfl rfl ?aP (fun _ hk => hk.elim) ?aF ?aO ?aB ?aS ?aL ?_
                  (case aP => exact rfl)
                  (case aB => exact (by repeat (first | (with_reducible first | exact HB.out | apply below_alloc | apply pw_below_drewN | apply below_drew1) | exact HB.out)))
                  (case aF => exact (fun _ _ => trivial))
                  (case aO => exact (by (with_reducible repeat (first | apply Kd.R_alloc | apply Kd.R_drewN | apply Kd.R_drew)); exact HO_3.out))
                  (case aS => exact (below_size (by repeat (first | (with_reducible first | exact HB.out | apply below_alloc | apply pw_below_drewN | apply below_drew1) | exact HB.out))))
                  (case aL => have := LMc8.out; omega)
                  intro v189 w10 ho hb hg hat
                  rw [← Ny188.out] at ho
                  have n0_ := Aside0.mk (hb)
                  have n1_ := Aside0.mk (ho)
                  clear HB
                  clear HO_3
                  have HB := n0_
                  have HO190 := n1_
                  clear n0_ n1_
                  clear ho hb hg hat
                  refine hK.out _ _ ⟨((HB.out.cell (World.block_lt_of_cell? w _ hw186_0)).trans hw186_0), ((HB.out.cell (World.block_lt_of_cell? w _ hw187_0)).trans hw187_0)⟩ (fun hHeld => ?_)
                  clear hK K
                  refine norm_ (a' := ?_) ?_ ?_
                  rotate_left
                  · show Act.put _ (some 31) _ = _
                    simp only [Act.put, List.setIfInBounds_toArray, List.set_cons_zero, List.set_cons_succ, i64_w, i32_w]
                    rfl
                  refine pure_ (i := 16) (N := some 3) (v := ?_) (a' := ?_) #[true, true, true, true, true, true, true, true, true, true, true, true, true, true, true, true, true] rfl rfl (any_of HT_.out (by kernel_rfl)) (fun _ _ _ h => h) (Or.inl ⟨by rfl, ?_⟩) ?_ ?_
                  rotate_left
                  · intro w'
                    go_simp
                    with_reducible rfl
                  rotate_left
                  · simp only [Act.put, List.setIfInBounds_toArray, List.set_cons_zero, List.set_cons_succ, i64_w, i32_w]
                    rfl
                  refine done_ (done_of HT_.out (by kernel_rfl)) ?_
                  try go_wp2
                  go_roundg k1
                  case measure => have := HK1.out; omega
                  case rel => exact ⟨(y188), (wrap64 (x4_1 + 2)), (by first | rfl | (simp; done) | (simp [*]; done)), H', ⟨by have := HK1.out; omega⟩, ⟨by (with_reducible repeat (first | apply Kd.R_alloc | apply Kd.R_drewN | apply Kd.R_drew)); exact HO190.out⟩, ⟨by repeat (first | (with_reducible first | exact HB.out | apply below_alloc | apply pw_below_drewN | apply below_drew1) | exact HB.out)⟩⟩
                · rw [if_neg c8] at H
                  exact absurd H (by simp)
              · rw [if_neg c7] at H
                exact absurd H (by simp)
            · rw [if_neg c5] at H
              exact absurd H (by simp)
          · rw [if_neg c4] at H
            exact absurd H (by simp)
        · rw [if_neg c3] at H
          have c3b0 : decide ((wrap64 (x4_1 + 1)) < (l0.length : Int)) = false := decide_eq_false c3
          clear c3
          obtain rfl := Option.some.inj H
          go_wp2
          go_ret
          exact ⟨_, by first | rfl | (simp [errW_none, errW_some] <;> rfl) | (simp [*, errW_none, errW_some] <;> rfl), by (with_reducible repeat (first | apply Kd.R_alloc | apply Kd.R_drewN | apply Kd.R_drew)); exact HO_3.out, by repeat (first | (with_reducible first | exact HB.out | apply below_alloc | apply pw_below_drewN | apply below_drew1) | exact HB.out)⟩
end Go.Proofs.Ytdjeekpgcjcffaa.P
end
section
namespace Go.Proofs.Ytdjeekpgcjcffaa.Take
open Go.RowKit Go.Proofs.Ytdjeekpgcjcffaa.P Go.Proofs.Ytdjeekpgcjcffaa.E Go.Proofs.YtdjeekpgcjcffaaW.PrintWords Go.Proofs.YtdjeekpgcjcffaaW.PrintLast Go.Proofs.YtdjeekpgcjcffaaW.PrintMore
def wordAt (l : List Int) (j : Nat) : Int := l.getD (2 * j) 0 * 256 + l.getD (2 * j + 1) 0
def pre (l : List Int) (j : Nat) : List Int := (List.range j).map (wordAt l)
theorem pre_succ (l : List Int) (j : Nat) : pre l (j + 1) = pre l j ++ [wordAt l j] := by unfold pre; rw [List.range_succ, List.map_append]; rfl
theorem pre_length (l : List Int) (j : Nat) : (pre l j).length = j := by simp [pre]
def words (l : List Int) : List Int := if l.length % 2 = 0 then pre l (l.length / 2) else []
theorem wrap16 {x : Int} (h0 : 0 ≤ x) (h1 : x < 65536) : IntKind.u16.wrap x = x := by simp [IntKind.wrap, IntKind.bits, IntKind.signed]; omega
theorem join (a b : Int) (ha : 0 ≤ a ∧ a < 256) (hb : 0 ≤ b ∧ b < 256) : Go.bits .or .u16 (IntKind.u16.wrap ((IntKind.u16.wrap a) * 256)) (IntKind.u16.wrap b) = a * 256 + b := by
  rw [wrap16 ha.1 (by omega), wrap16 hb.1 (by omega), wrap16 (by omega) (by omega)]
  exact bits_join .u16 16 (by decide) (fun n h0 h1 => by simp [IntKind.wrap, IntKind.bits, IntKind.signed]; omega) 8 (a * 256) b (by omega) (by omega) (by omega) hb.1 (by omega) (by omega)
theorem rd_at (l : List Int) (i : Nat) : rd l (i : Int) = l.getD i 0 := by simp [rd]
theorem loop (l : List Int) (hb : isBytes l) (hl : l.length ≤ 1000000) (he : l.length % 2 = 0) (d : Nat) : ∀ j, j + d = l.length / 2 → Ev (fun k => word_Take.l0 k l (pre l j) ((2 * j : Nat) : Int)) (pre l (l.length / 2)) := by
  induction d with
  | zero =>
    intro j hj
    have c : ¬ ((2 * j : Nat) : Int) < (l.length : Int) := by omega
    refine Ev.step (f := fun _ => some (pre l j)) (fun k => ?_) (ret (by rw [← hj]; rfl))
    simp only [word_Take.l0]
    rw [if_neg c]
  | succ d ih =>
    intro j hj
    have c1 : ((2 * j : Nat) : Int) < (l.length : Int) := by omega
    have c2 : (0 : Int) ≤ ((2 * j : Nat) : Int) := by omega
    have d1 : ((2 * j : Nat) : Int) + 1 = ((2 * j + 1 : Nat) : Int) := by omega
    have d2 : ((2 * j : Nat) : Int) + 2 = ((2 * (j + 1) : Nat) : Int) := by omega
    have e1 : -9223372036854775808 ≤ ((2 * j + 1 : Nat) : Int) := by omega
    have e2 : ((2 * j + 1 : Nat) : Int) < 9223372036854775808 := by omega
    have e3 : -9223372036854775808 ≤ ((2 * (j + 1) : Nat) : Int) := by omega
    have e4 : ((2 * (j + 1) : Nat) : Int) < 9223372036854775808 := by omega
    have c3 : (0 : Int) ≤ ((2 * j + 1 : Nat) : Int) := by omega
    have c4 : ((2 * j + 1 : Nat) : Int) < (l.length : Int) := by omega
    have c5 : (pre l j).length < 70368744177664 := by rw [pre_length]; omega
    refine Ev.step (f := fun k => word_Take.l0 k l (pre l (j + 1)) ((2 * (j + 1) : Nat) : Int)) (fun k => ?_) (ih (j + 1) (by omega))
    simp only [word_Take.l0]
    rw [d1, d2, wrap64_id e1 e2, wrap64_id e3 e4, if_pos c1, if_pos c2, if_pos c3, if_pos c4, if_pos c5, rd_at, rd_at, join _ _ (isBytes_rd hb _) (isBytes_rd hb _), pre_succ]; rfl
theorem take_ev (l : List Int) (hb : isBytes l) (hl : l.length ≤ 1000000) : Ev (fun k => word_Take.f k l) (words l) := by
  unfold word_Take.f words
  by_cases he : l.length % 2 = 0
  · rw [if_pos he]
    exact pos (by omega) (loop l hb hl he (l.length / 2) 0 (by omega))
  · rw [if_neg he]
    exact neg (by omega) (ret rfl)
theorem join2 (a b : Int) (ha : 0 ≤ a ∧ a < 256) (hb : 0 ≤ b ∧ b < 256) : IntKind.u16.wrap ((IntKind.u16.wrap (256 * (IntKind.u16.wrap a))) + (IntKind.u16.wrap b)) = a * 256 + b := by
  rw [wrap16 (x := a) ha.1 (by omega), wrap16 (x := b) hb.1 (by omega), wrap16 (x := 256 * a) (by omega) (by omega), wrap16 (x := 256 * a + b) (by omega) (by omega)]
  omega
theorem ref_loop (l : List Int) (hb : isBytes l) (hl : l.length ≤ 1000000) (he : l.length % 2 = 0) (d : Nat) : ∀ j, j + d = l.length / 2 → Ev (fun k => busbarref04_Take.l0 k l (pre l j) ((2 * j : Nat) : Int)) (pre l (l.length / 2)) := by
  induction d with
  | zero =>
    intro j hj
    have c : ¬ ((2 * j + 1 : Nat) : Int) < (l.length : Int) := by omega
    have d1 : ((2 * j : Nat) : Int) + 1 = ((2 * j + 1 : Nat) : Int) := by omega
    have e1 : -9223372036854775808 ≤ ((2 * j + 1 : Nat) : Int) := by omega
    have e2 : ((2 * j + 1 : Nat) : Int) < 9223372036854775808 := by omega
    refine Ev.step (f := fun _ => some (pre l j)) (fun k => ?_) (ret (by rw [← hj]; rfl))
    simp only [busbarref04_Take.l0]
    rw [d1, wrap64_id e1 e2, if_neg c]
  | succ d ih =>
    intro j hj
    have c1 : ((2 * j : Nat) : Int) < (l.length : Int) := by omega
    have c2 : (0 : Int) ≤ ((2 * j : Nat) : Int) := by omega
    have d1 : ((2 * j : Nat) : Int) + 1 = ((2 * j + 1 : Nat) : Int) := by omega
    have d2 : ((2 * j : Nat) : Int) + 2 = ((2 * (j + 1) : Nat) : Int) := by omega
    have e1 : -9223372036854775808 ≤ ((2 * j + 1 : Nat) : Int) := by omega
    have e2 : ((2 * j + 1 : Nat) : Int) < 9223372036854775808 := by omega
    have e3 : -9223372036854775808 ≤ ((2 * (j + 1) : Nat) : Int) := by omega
    have e4 : ((2 * (j + 1) : Nat) : Int) < 9223372036854775808 := by omega
    have c3 : (0 : Int) ≤ ((2 * j + 1 : Nat) : Int) := by omega
    have c4 : ((2 * j + 1 : Nat) : Int) < (l.length : Int) := by omega
    have c5 : (pre l j).length < 70368744177664 := by rw [pre_length]; omega
    refine Ev.step (f := fun k => busbarref04_Take.l0 k l (pre l (j + 1)) ((2 * (j + 1) : Nat) : Int)) (fun k => ?_) (ih (j + 1) (by omega))
    simp only [busbarref04_Take.l0]
    rw [d1, d2, wrap64_id e1 e2, wrap64_id e3 e4, if_pos c4, if_pos c2, if_pos c1, if_pos c3, if_pos c5, rd_at, rd_at, join2 _ _ (isBytes_rd hb _) (isBytes_rd hb _), pre_succ]; rfl
theorem reftake_ev (l : List Int) (hb : isBytes l) (hl : l.length ≤ 1000000) : Ev (fun k => busbarref04_Take.f k l) (words l) := by
  unfold busbarref04_Take.f words
  by_cases he : l.length % 2 = 0
  · rw [if_pos he]
    exact neg (by omega) (ref_loop l hb hl he (l.length / 2) 0 (by omega))
  · rw [if_neg he]
    exact pos (by omega) (ret rfl)
end Go.Proofs.Ytdjeekpgcjcffaa.Take
end
