/- Go functions of this seat as Lean functions, each with a proof that the call answers just what its Lean function says; written by a program of this session (wip/tools/pr.py) over the kit's print. Conditions: what each theorem states. -/
import Derived.Test.YtpjapdkefjbimaaPx0
import Derived.Test.YtpjapdkefjbimaaPx2
import Derived.Test.YtpjapdkefjbimaaPx3
import Derived.Test.YtpjapdkefjbimaaPx5
namespace Go.Proofs.Ytpjapdkefjbimaa.P
open Go.RowKit Go.Proofs.YtpjapdkefjbimaaW.PrintWords Go.Proofs.YtpjapdkefjbimaaW.PrintLast Go.Proofs.YtpjapdkefjbimaaW.PrintMore
attribute [local go_sem] max2_int min2_int max_two min_two max_three min_three max_four min_four   -- for this text's walks alone
set_option linter.unusedVariables false
set_option linter.unusedSimpArgs false

/-! ### busbarlaw05_BitsOne: function 5 -/
mutual
def busbarlaw05_BitsOne.j0 : Nat → List Bool → Int → Bool → Bool → Option (Bool)
  | 0, _, _, _, _ => none
  | k + 1, x0, x1, x5, x21 => if x21 = true then (some x5) else (if (x0.length : Int) = 0 then (none) else ((bits_Pack.f k x0).bind fun t187 => ((some (([] : List Bool) : List Bool)).bind fun y190 => (if y190.length + x0.length < 140737488355328 then ((some (y190 ++ x0 : List Bool)).bind fun y193 => (if 0 ≤ (Int.tmod (wrap64 (x1)) (x0.length : Int)) then (if (Int.tmod (wrap64 (x1)) (x0.length : Int)) < (y193.length : Int) then ((bits_Pack.f k (y193.set ((Int.tmod (wrap64 (x1)) (x0.length : Int)) : Int).toNat (!(rdOf false y193 (Int.tmod (wrap64 (x1)) (x0.length : Int)))))).bind fun t198 => (if (t187.length : Int) = (wrap64 (Int.tdiv (wrap64 ((x0.length : Int) + 7)) 8)) then (busbarlaw05_BitsOne.j1 k x0 x5 (Int.tmod (wrap64 (x1)) (x0.length : Int)) t187 t198 ((t198.length : Int) != (t187.length : Int))) else (busbarlaw05_BitsOne.j1 k x0 x5 (Int.tmod (wrap64 (x1)) (x0.length : Int)) t187 t198 true))) else (none)) else (none))) else (none)))))
def busbarlaw05_BitsOne.j1 : Nat → List Bool → Bool → Int → List Int → List Int → Bool → Option (Bool)
  | 0, _, _, _, _, _, _ => none
  | k + 1, x0, x5, x6, x7, x9, x56 => if x56 = true then (some false) else (busbarlaw05_BitsOne.l0 k x0 x5 x6 x7 x9 0)
def busbarlaw05_BitsOne.l0 : Nat → List Bool → Bool → Int → List Int → List Int → Int → Option (Bool)
  | 0, _, _, _, _, _, _ => none
  | k + 1, x0, x5, x6, x7, x9, x10 => if x10 < (x7.length : Int) then (if 0 ≤ x10 then (if x10 < (x9.length : Int) then (if (((rd x7 x10) == (rd x9 x10)) == (x10 == (wrap64 (Int.tdiv x6 8)))) = true then (some false) else (busbarlaw05_BitsOne.l0 k x0 x5 x6 x7 x9 (wrap64 (x10 + 1)))) else (none)) else (none)) else (if ((x0.length : Int) % 8) = 0 then (some x5) else (if 0 ≤ (wrap64 ((x7.length : Int) - 1)) then (if (wrap64 ((x7.length : Int) - 1)) < (x7.length : Int) then ((bits_Unpack.f k (x7.set ((wrap64 ((x7.length : Int) - 1)) : Int).toNat (Go.bits .or .u8 (rd x7 (wrap64 ((x7.length : Int) - 1))) 128)) (x0.length : Int)).bind fun bt205 => (if x5 = true then (some (!bt205.2)) else (some false))) else (none)) else (none)))
end
def busbarlaw05_BitsOne.f (k : Nat) (l0 : List Bool) (a1 : Int) : Option (Bool) := (busbarlaw05_awake.f k).bind fun t186 => (if (l0.length : Int) > 300 then (busbarlaw05_BitsOne.j0 k l0 a1 t186 true) else (busbarlaw05_BitsOne.j0 k l0 a1 t186 ((l0.length : Int) == 0)))
theorem busbarlaw05_BitsOne.mono_l : ∀ k, (∀ y0 y1 y2 y3, LeO (busbarlaw05_BitsOne.j0 k y0 y1 y2 y3) (busbarlaw05_BitsOne.j0 (k + 1) y0 y1 y2 y3)) ∧ (∀ y0 y1 y2 y3 y4 y5, LeO (busbarlaw05_BitsOne.j1 k y0 y1 y2 y3 y4 y5) (busbarlaw05_BitsOne.j1 (k + 1) y0 y1 y2 y3 y4 y5)) ∧ (∀ y0 y1 y2 y3 y4 y5, LeO (busbarlaw05_BitsOne.l0 k y0 y1 y2 y3 y4 y5) (busbarlaw05_BitsOne.l0 (k + 1) y0 y1 y2 y3 y4 y5))
  | 0 => ⟨fun _ _ _ _ r h => by simp [busbarlaw05_BitsOne.j0] at h, fun _ _ _ _ _ _ r h => by simp [busbarlaw05_BitsOne.j1] at h, fun _ _ _ _ _ _ r h => by simp [busbarlaw05_BitsOne.l0] at h⟩
  | k + 1 => by
    obtain ⟨ih0, ih1, ih2⟩ := busbarlaw05_BitsOne.mono_l k
    refine ⟨?_, ?_, ?_⟩
    · intro y0 y1 y2 y3
      unfold busbarlaw05_BitsOne.j0
      repeat' first
      | (with_reducible exact ih0 _ _ _ _)
      | (with_reducible exact ih1 _ _ _ _ _ _)
      | (with_reducible exact ih2 _ _ _ _ _ _)
      | (with_reducible exact bits_Pack.mono _ _)
      | (with_reducible exact bits_Unpack.mono _ _ _)
      | (with_reducible exact busbarlaw05_awake.mono _)
      | (with_reducible exact LeO.refl _)
      | (with_reducible exact LeO.none _)
      | (with_reducible refine LeO.ite ?_ ?_)
      | (with_reducible refine LeO.bind ?_ (fun _ => ?_))
      | exact ih0 _ _ _ _
      | exact ih1 _ _ _ _ _ _
      | exact ih2 _ _ _ _ _ _
      | exact bits_Pack.mono _ _
      | exact bits_Unpack.mono _ _ _
      | exact busbarlaw05_awake.mono _
      | exact LeO.none _
      | refine LeO.ite ?_ ?_
      | refine LeO.bind ?_ (fun _ => ?_)
    · intro y0 y1 y2 y3 y4 y5
      unfold busbarlaw05_BitsOne.j1
      repeat' first
      | (with_reducible exact ih0 _ _ _ _)
      | (with_reducible exact ih1 _ _ _ _ _ _)
      | (with_reducible exact ih2 _ _ _ _ _ _)
      | (with_reducible exact bits_Pack.mono _ _)
      | (with_reducible exact bits_Unpack.mono _ _ _)
      | (with_reducible exact busbarlaw05_awake.mono _)
      | (with_reducible exact LeO.refl _)
      | (with_reducible exact LeO.none _)
      | (with_reducible refine LeO.ite ?_ ?_)
      | (with_reducible refine LeO.bind ?_ (fun _ => ?_))
      | exact ih0 _ _ _ _
      | exact ih1 _ _ _ _ _ _
      | exact ih2 _ _ _ _ _ _
      | exact bits_Pack.mono _ _
      | exact bits_Unpack.mono _ _ _
      | exact busbarlaw05_awake.mono _
      | exact LeO.none _
      | refine LeO.ite ?_ ?_
      | refine LeO.bind ?_ (fun _ => ?_)
    · intro y0 y1 y2 y3 y4 y5
      unfold busbarlaw05_BitsOne.l0
      repeat' first
      | (with_reducible exact ih0 _ _ _ _)
      | (with_reducible exact ih1 _ _ _ _ _ _)
      | (with_reducible exact ih2 _ _ _ _ _ _)
      | (with_reducible exact bits_Pack.mono _ _)
      | (with_reducible exact bits_Unpack.mono _ _ _)
      | (with_reducible exact busbarlaw05_awake.mono _)
      | (with_reducible exact LeO.refl _)
      | (with_reducible exact LeO.none _)
      | (with_reducible refine LeO.ite ?_ ?_)
      | (with_reducible refine LeO.bind ?_ (fun _ => ?_))
      | exact ih0 _ _ _ _
      | exact ih1 _ _ _ _ _ _
      | exact ih2 _ _ _ _ _ _
      | exact bits_Pack.mono _ _
      | exact bits_Unpack.mono _ _ _
      | exact busbarlaw05_awake.mono _
      | exact LeO.none _
      | refine LeO.ite ?_ ?_
      | refine LeO.bind ?_ (fun _ => ?_)
theorem busbarlaw05_BitsOne.mono : ∀ a0 a1 k, LeO (busbarlaw05_BitsOne.f k a0 a1) (busbarlaw05_BitsOne.f (k + 1) a0 a1) := by
  intro a0 a1 k
  obtain ⟨ih0, ih1, ih2⟩ := busbarlaw05_BitsOne.mono_l k
  unfold busbarlaw05_BitsOne.f
  repeat' first
      | (with_reducible exact ih0 _ _ _ _)
      | (with_reducible exact ih1 _ _ _ _ _ _)
      | (with_reducible exact ih2 _ _ _ _ _ _)
      | (with_reducible exact bits_Pack.mono _ _)
      | (with_reducible exact bits_Unpack.mono _ _ _)
      | (with_reducible exact busbarlaw05_awake.mono _)
      | (with_reducible exact LeO.refl _)
      | (with_reducible exact LeO.none _)
      | (with_reducible refine LeO.ite ?_ ?_)
      | (with_reducible refine LeO.bind ?_ (fun _ => ?_))
      | exact ih0 _ _ _ _
      | exact ih1 _ _ _ _ _ _
      | exact ih2 _ _ _ _ _ _
      | exact bits_Pack.mono _ _
      | exact bits_Unpack.mono _ _ _
      | exact busbarlaw05_awake.mono _
      | exact LeO.none _
      | refine LeO.ite ?_ ?_
      | refine LeO.bind ?_ (fun _ => ?_)
set_option maxHeartbeats 8000000 in
set_option maxRecDepth 100000 in
theorem busbarlaw05_BitsOne.calls (k : Nat) (A0 : Option Addr) (c0 : Nat) (l0 : List Bool) (a1 : Int) (r : Bool) (w : World) (hr0 : Kd.C Kd.bool w A0 l0.length l0) (hc0 : l0.length ≤ c0) (h : busbarlaw05_BitsOne.f k l0 a1 = some r) :
    Calls Try.prog 5 #[.slice A0 l0.length c0, .int .u16 a1] w fun e w' => e = .returned (.bool r) ∧ Below w.heap.size w w' := by
  have HR0 := Aside0.mk hr0
  have HC0 := Aside0.mk hc0
  clear hr0 hc0
  have HB := Aside0.mk (Below.refl w.heap.size w)
  have H : ((busbarlaw05_awake.f k).bind fun t186 => (if (l0.length : Int) > 300 then (busbarlaw05_BitsOne.j0 k l0 a1 t186 true) else (busbarlaw05_BitsOne.j0 k l0 a1 t186 ((l0.length : Int) == 0)))) = some r := h
  clear h
  replace H := Option.bind_eq_some_iff.mp H
  obtain ⟨t186, A30, H⟩ := H
  replace H : (if (l0.length : Int) > 300 then (busbarlaw05_BitsOne.j0 k l0 a1 t186 true) else (busbarlaw05_BitsOne.j0 k l0 a1 t186 ((l0.length : Int) == 0))) = some r := H
  have A3 := Aside0.mk A30
  clear A30
  have HC4 := Aside0.mk H
  clear H
  go_enter Try.func5, Try.ntmps5
  go_upto_region 2 with (first | (go_at_call 7; (with_reducible refine (busbarlaw05_awake.calls k  t186 _ A3.out).mono ?_); rintro e w5 ⟨rfl, hb⟩; have n0_ := Aside0.mk (below_step (by repeat (first | (with_reducible first | exact HB.out | apply below_alloc | apply pw_below_drewN | apply below_drew1) | exact HB.out)) hb); clear HB; have HB := n0_; clear n0_; (try clear hb); (try clear hb2); (try clear hk); (try clear hi)))
  repeat (go_quiet (first | (go_at_call 7; (with_reducible refine (busbarlaw05_awake.calls k  t186 _ A3.out).mono ?_); rintro e w5 ⟨rfl, hb⟩; have n0_ := Aside0.mk (below_step (by repeat (first | (with_reducible first | exact HB.out | apply below_alloc | apply pw_below_drewN | apply below_drew1) | exact HB.out)) hb); clear HB; have HB := n0_; clear n0_; (try clear hb); (try clear hb2); (try clear hk); (try clear hi))); go_upto_region 2 with (first | (go_at_call 7; (with_reducible refine (busbarlaw05_awake.calls k  t186 _ A3.out).mono ?_); rintro e w5 ⟨rfl, hb⟩; have n0_ := Aside0.mk (below_step (by repeat (first | (with_reducible first | exact HB.out | apply below_alloc | apply pw_below_drewN | apply below_drew1) | exact HB.out)) hb); clear HB; have HB := n0_; clear n0_; (try clear hb); (try clear hb2); (try clear hk); (try clear hi))))
  (try simp only [Act.put, List.setIfInBounds_toArray, List.set_cons_zero, List.set_cons_succ])
  go_cut [21] (fun v21 wc => ∃ (kq : Nat) (x21_3 : Bool), v21 = .bool x21_3 ∧ Aside0 (busbarlaw05_BitsOne.j0 kq l0 a1 t186 x21_3 = some r) ∧ Aside0 (kq ≤ k) ∧ Aside0 (Below w.heap.size w wc))
  case first =>
    have H := HC4.out
    clear HC4
    by_cases c6 : (l0.length : Int) > 300
    · rw [if_pos c6] at H
      have c6b0 : decide (300 < (l0.length : Int)) = true := decide_eq_true c6
      have c6b1 : decide (300 < l0.length) = true := decide_eq_true (by omega)
      clear c6
      (first | rw [c6b0] | (simp only [i64_w, i32_w]; rw [c6b0]) | skip)
      have H' := Aside0.mk H
      clear H
      go_wp2
      repeat (go_quiet (fail); try go_wp2)
      go_meet
      case rel => exact ⟨_, (true), (by first | rfl | (simp; done) | (simp [*]; done)), H', ⟨by first | omega | exact Nat.le_refl _⟩, ⟨by repeat (first | (with_reducible first | exact HB.out | apply below_alloc | apply pw_below_drewN | apply below_drew1) | exact HB.out)⟩⟩
    · rw [if_neg c6] at H
      have c6b0 : decide (300 < (l0.length : Int)) = false := decide_eq_false c6
      have c6b1 : decide (300 < l0.length) = false := decide_eq_false (by omega)
      clear c6
      (first | rw [c6b0] | (simp only [i64_w, i32_w]; rw [c6b0]) | skip)
      have H' := Aside0.mk H
      clear H
      go_wp2
      repeat (go_quiet (fail); try go_wp2)
      go_meet
      case rel => exact ⟨_, (((l0.length : Int) == 0)), (by first | rfl | (simp; done) | (simp [*]; done)), H', ⟨by first | omega | exact Nat.le_refl _⟩, ⟨by repeat (first | (with_reducible first | exact HB.out | apply below_alloc | apply pw_below_drewN | apply below_drew1) | exact HB.out)⟩⟩
  case rest =>
    clear HC4
    try clear p2
    try clear c5
    try clear c6
    try clear c6b0
    try clear c6b1
    obtain ⟨kq, x21_3, rfl, HA, HJ3, HB⟩ := hcut
    cases kq with
    | zero => exact absurd HA.out (by simp [busbarlaw05_BitsOne.j0])
    | succ kj3 =>
      have H := HA.out
      clear HA
      simp only [busbarlaw05_BitsOne.j0] at H
      by_cases c7 : x21_3 = true
      · subst c7
        have H1 : (some t186) = some r := by rw [if_pos rfl] at H; exact H
        clear H
        have H := H1
        clear H1
        obtain rfl := Option.some.inj H
        go_wp2
        repeat (go_quiet (fail); try go_wp2)
        go_ret
        exact ⟨by first | rfl | (simp [errW_none, errW_some] <;> rfl) | (simp [*, errW_none, errW_some] <;> rfl), by repeat (first | (with_reducible first | exact HB.out | apply below_alloc | apply pw_below_drewN | apply below_drew1) | exact HB.out)⟩
      · replace c7 := Bool.eq_false_iff.mpr c7
        subst c7
        have H1 : (if (l0.length : Int) = 0 then (none) else ((bits_Pack.f kj3 l0).bind fun t187 => ((some (([] : List Bool) : List Bool)).bind fun y190 => (if y190.length + l0.length < 140737488355328 then ((some (y190 ++ l0 : List Bool)).bind fun y193 => (if 0 ≤ (Int.tmod (wrap64 (a1)) (l0.length : Int)) then (if (Int.tmod (wrap64 (a1)) (l0.length : Int)) < (y193.length : Int) then ((bits_Pack.f kj3 (y193.set ((Int.tmod (wrap64 (a1)) (l0.length : Int)) : Int).toNat (!(rdOf false y193 (Int.tmod (wrap64 (a1)) (l0.length : Int)))))).bind fun t198 => (if (t187.length : Int) = (wrap64 (Int.tdiv (wrap64 ((l0.length : Int) + 7)) 8)) then (busbarlaw05_BitsOne.j1 kj3 l0 t186 (Int.tmod (wrap64 (a1)) (l0.length : Int)) t187 t198 ((t198.length : Int) != (t187.length : Int))) else (busbarlaw05_BitsOne.j1 kj3 l0 t186 (Int.tmod (wrap64 (a1)) (l0.length : Int)) t187 t198 true))) else (none)) else (none))) else (none))))) = some r := by rw [if_neg (show ¬ (false = true) by decide)] at H; exact H
        clear H
        have H := H1
        clear H1
        by_cases c8 : (l0.length : Int) = 0
        · rw [if_pos c8] at H
          exact absurd H (by simp)
        · rw [if_neg c8] at H
          have c8b0 : ((l0.length : Int) == 0) = false := beq_eq_false_iff_ne.mpr c8
          have c8b1 : ((l0.length : Int) != 0) = true := bne_iff_ne.mpr c8
          have c8b2 : ¬ (l0 = []) := fun h_ => c8 (by rw [h_]; rfl)
          replace H := Option.bind_eq_some_iff.mp H
          obtain ⟨t187, A90, H⟩ := H
          replace H : ((some (([] : List Bool) : List Bool)).bind fun y190 => (if y190.length + l0.length < 140737488355328 then ((some (y190 ++ l0 : List Bool)).bind fun y193 => (if 0 ≤ (Int.tmod (wrap64 (a1)) (l0.length : Int)) then (if (Int.tmod (wrap64 (a1)) (l0.length : Int)) < (y193.length : Int) then ((bits_Pack.f kj3 (y193.set ((Int.tmod (wrap64 (a1)) (l0.length : Int)) : Int).toNat (!(rdOf false y193 (Int.tmod (wrap64 (a1)) (l0.length : Int)))))).bind fun t198 => (if (t187.length : Int) = (wrap64 (Int.tdiv (wrap64 ((l0.length : Int) + 7)) 8)) then (busbarlaw05_BitsOne.j1 kj3 l0 t186 (Int.tmod (wrap64 (a1)) (l0.length : Int)) t187 t198 ((t198.length : Int) != (t187.length : Int))) else (busbarlaw05_BitsOne.j1 kj3 l0 t186 (Int.tmod (wrap64 (a1)) (l0.length : Int)) t187 t198 true))) else (none)) else (none))) else (none))) = some r := H
          have A9 := Aside0.mk A90
          clear A90
          obtain ⟨y190, hy190⟩ : ∃ y_ : List Bool, y_ = (([] : List Bool)) := ⟨_, rfl⟩
          replace H : (if y190.length + l0.length < 140737488355328 then ((some (y190 ++ l0 : List Bool)).bind fun y193 => (if 0 ≤ (Int.tmod (wrap64 (a1)) (l0.length : Int)) then (if (Int.tmod (wrap64 (a1)) (l0.length : Int)) < (y193.length : Int) then ((bits_Pack.f kj3 (y193.set ((Int.tmod (wrap64 (a1)) (l0.length : Int)) : Int).toNat (!(rdOf false y193 (Int.tmod (wrap64 (a1)) (l0.length : Int)))))).bind fun t198 => (if (t187.length : Int) = (wrap64 (Int.tdiv (wrap64 ((l0.length : Int) + 7)) 8)) then (busbarlaw05_BitsOne.j1 kj3 l0 t186 (Int.tmod (wrap64 (a1)) (l0.length : Int)) t187 t198 ((t198.length : Int) != (t187.length : Int))) else (busbarlaw05_BitsOne.j1 kj3 l0 t186 (Int.tmod (wrap64 (a1)) (l0.length : Int)) t187 t198 true))) else (none)) else (none))) else (none)) = some r := by first | (rw [hy190]; with_reducible exact H) | (have H2_ := (Option.bind_some _ _).symm.trans H; rw [hy190]; with_reducible exact H2_) | (have H2_ := (Option.bind_some _ _).symm.trans H; with_reducible exact H2_) | with_reducible exact H | (rw [hy190]; exact H) | exact H
          have Ny190 := Aside0.mk hy190
          clear hy190
          by_cases c10 : y190.length + l0.length < 140737488355328
          · rw [if_pos c10] at H
            have LMc10 := Aside0.mk c10
            clear c10
            obtain ⟨y193, hy193⟩ : ∃ y_ : List Bool, y_ = (y190 ++ l0) := ⟨_, rfl⟩
            replace H : (if 0 ≤ (Int.tmod (wrap64 (a1)) (l0.length : Int)) then (if (Int.tmod (wrap64 (a1)) (l0.length : Int)) < (y193.length : Int) then ((bits_Pack.f kj3 (y193.set ((Int.tmod (wrap64 (a1)) (l0.length : Int)) : Int).toNat (!(rdOf false y193 (Int.tmod (wrap64 (a1)) (l0.length : Int)))))).bind fun t198 => (if (t187.length : Int) = (wrap64 (Int.tdiv (wrap64 ((l0.length : Int) + 7)) 8)) then (busbarlaw05_BitsOne.j1 kj3 l0 t186 (Int.tmod (wrap64 (a1)) (l0.length : Int)) t187 t198 ((t198.length : Int) != (t187.length : Int))) else (busbarlaw05_BitsOne.j1 kj3 l0 t186 (Int.tmod (wrap64 (a1)) (l0.length : Int)) t187 t198 true))) else (none)) else (none)) = some r := by first | (rw [hy193]; with_reducible exact H) | (have H2_ := (Option.bind_some _ _).symm.trans H; rw [hy193]; with_reducible exact H2_) | (have H2_ := (Option.bind_some _ _).symm.trans H; with_reducible exact H2_) | with_reducible exact H | (rw [hy193]; exact H) | exact H
            have Ny193 := Aside0.mk hy193
            clear hy193
            obtain ⟨ji11, hji11⟩ : ∃ j_ : Int, (Int.tmod (wrap64 (a1)) (l0.length : Int)) = j_ := ⟨_, rfl⟩
            replace H : (if 0 ≤ (ji11) then (if (ji11) < (y193.length : Int) then ((bits_Pack.f kj3 (y193.set ((ji11) : Int).toNat (!(rdOf false y193 (ji11))))).bind fun t198 => (if (t187.length : Int) = (wrap64 (Int.tdiv (wrap64 ((l0.length : Int) + 7)) 8)) then (busbarlaw05_BitsOne.j1 kj3 l0 t186 ji11 t187 t198 ((t198.length : Int) != (t187.length : Int))) else (busbarlaw05_BitsOne.j1 kj3 l0 t186 ji11 t187 t198 true))) else (none)) else (none)) = some r := by first | (rw [hji11] at H; exact H) | (simp only [hji11] at H ⊢; exact H)
            (try rw [hji11] at A9)
            by_cases c12 : 0 ≤ (ji11)
            · rw [if_pos c12] at H
              have c12b0 : decide (0 ≤ (ji11)) = true := decide_eq_true c12
              clear c12
              by_cases c13 : (ji11) < (y193.length : Int)
              · rw [if_pos c13] at H
                have c13b0 : decide ((ji11) < (y193.length : Int)) = true := decide_eq_true c13
                clear c13
                obtain ⟨y197, hy197⟩ : ∃ y_ : List Bool, y_ = (y193.set ((ji11) : Int).toNat (!(rdOf false y193 (ji11)))) := ⟨_, rfl⟩
                replace H : ((bits_Pack.f kj3 y197).bind fun t198 => (if (t187.length : Int) = (wrap64 (Int.tdiv (wrap64 ((l0.length : Int) + 7)) 8)) then (busbarlaw05_BitsOne.j1 kj3 l0 t186 ji11 t187 t198 ((t198.length : Int) != (t187.length : Int))) else (busbarlaw05_BitsOne.j1 kj3 l0 t186 ji11 t187 t198 true))) = some r := by first | (rw [hy197]; with_reducible exact H) | (have H2_ := (Option.bind_some _ _).symm.trans H; rw [hy197]; with_reducible exact H2_) | (have H2_ := (Option.bind_some _ _).symm.trans H; with_reducible exact H2_) | with_reducible exact H | (rw [hy197]; exact H) | exact H
                have Ny197 := Aside0.mk hy197
                clear hy197
                replace H := Option.bind_eq_some_iff.mp H
                obtain ⟨t198, A150, H⟩ := H
                replace H : (if (t187.length : Int) = (wrap64 (Int.tdiv (wrap64 ((l0.length : Int) + 7)) 8)) then (busbarlaw05_BitsOne.j1 kj3 l0 t186 ji11 t187 t198 ((t198.length : Int) != (t187.length : Int))) else (busbarlaw05_BitsOne.j1 kj3 l0 t186 ji11 t187 t198 true)) = some r := H
                have A15 := Aside0.mk A150
                clear A150
                have HC16 := Aside0.mk H
                clear H
                go_upto_region 9 with (first | (go_at_call 13; (with_reducible refine (bits_Pack.calls kj3 _ _ l0 t187 _ ?side1 ?side2 A9.out).mono ?_); (case side1 => repeat (first | exact (Kd.C_below HR0.out HB.out) | (with_reducible refine Kd.C_alloc ?_ _) | (with_reducible refine Kd.C_drewN ?_ _) | (with_reducible refine Kd.C_drew ?_))); (case side2 => exact HC0.out); rintro e w17 ⟨v188, rfl, ho0, hb⟩; have n0_ := Aside0.mk (Kd.R_lower ho0 (below_size (by repeat (first | (with_reducible first | exact HB.out | apply below_alloc | apply pw_below_drewN | apply below_drew1) | exact HB.out)))); have n1_ := Aside0.mk (below_step (by repeat (first | (with_reducible first | exact HB.out | apply below_alloc | apply pw_below_drewN | apply below_drew1) | exact HB.out)) hb); clear HB; have HO189 := n0_; have HB := n1_; clear n0_ n1_; (try clear hb); (try clear hb2); (try clear hk); (try clear hi); (try clear ho0)) | ((with_reducible refine gate_dst (N := 30) rfl ?_); (try (refine gate_guard (by rfl) ?_; dsimp only)); refine Kd.R_lit Kd.bool _ 4 ?hg (N := 30) ?hd (xs := ([] : List Bool)) (inner := []) (ok := fun _ => True) (okp := fun _ => True) ?hr ?hp (fun _ hk => hk) trivial (Below.refl _ _) (Nat.le_refl _) (by simp) ?_; (case hd => rfl); (case hg => rfl); (case hr => first | (go_simp; done) | (go_simp; rfl)); (case hp => exact (Reps.none _ _)); intro v191 w18 ho19 hb hg_ hnew_; clear hg_ hnew_; (first | rw [← Ny190.out] at ho19 | (simp only [Int.reduceToNat] at ho19; rw [← Ny190.out] at ho19)); have n0_ := Aside0.mk (Kd.R_below (by (with_reducible repeat (first | apply Kd.R_alloc | apply Kd.R_drewN | apply Kd.R_drew)); exact HO189.out) hb); have n1_ := Aside0.mk (Kd.R_lower ho19 (below_size (by repeat (first | (with_reducible first | exact HB.out | apply below_alloc | apply pw_below_drewN | apply below_drew1) | exact HB.out)))); have n2_ := Aside0.mk (below_step (by repeat (first | (with_reducible first | exact HB.out | apply below_alloc | apply pw_below_drewN | apply below_drew1) | exact HB.out)) hb); clear HO189; clear HB; have HO189 := n0_; have HO192 := n1_; have HB := n2_; clear n0_ n1_ n2_; clear hb ho19) | ((with_reducible refine gate_builtin (b := .append) (xs := #[.tmp 30, .tmp 31]) rfl ?_); (try (refine gate_guard (by rfl) ?_; dsimp only)); at_builtin; refine Kd.R_append_rows Kd.bool (w0 := w) w.heap.size rfl (.tmp 30) (.tmp 31) 22 4 (.bool false) 1 rfl Try.underlying22 info4 rfl (by decide) (by omega) v191 y190 l0 _ _ _ (fun _ => True) (fun _ => False) rfl rfl ?aO ?aR (fun _ _ h => h) (fun _ h => h.elim) ?aF ?aB ?aS ?aL ?_; (case aR => repeat (first | exact (Kd.C_below HR0.out HB.out) | (with_reducible refine Kd.C_alloc ?_ _) | (with_reducible refine Kd.C_drewN ?_ _) | (with_reducible refine Kd.C_drew ?_))); (case aB => exact (by repeat (first | (with_reducible first | exact HB.out | apply below_alloc | apply pw_below_drewN | apply below_drew1) | exact HB.out))); (case aF => exact (fun _ _ => trivial)); (case aO => exact (by (with_reducible repeat (first | apply Kd.R_alloc | apply Kd.R_drewN | apply Kd.R_drew)); exact HO192.out)); (case aS => exact (below_size (by repeat (first | (with_reducible first | exact HB.out | apply below_alloc | apply pw_below_drewN | apply below_drew1) | exact HB.out)))); (case aL => have := LMc10.out; omega); intro v194 w20 ho hb hg hat; rw [← Ny193.out] at ho; have n0_ := Aside0.mk (Kd.R_over' (by (with_reducible repeat (first | apply Kd.R_alloc | apply Kd.R_drewN | apply Kd.R_drew)); exact HO189.out) (Kd.R_typed (by (with_reducible repeat (first | apply Kd.R_alloc | apply Kd.R_drewN | apply Kd.R_drew)); exact HO192.out)) (by decide) hg); have n1_ := Aside0.mk (hb); have n2_ := Aside0.mk (ho); clear HO189; clear HB; clear HO192; have HO189 := n0_; have HB := n1_; have HO195 := n2_; clear n0_ n1_ n2_; clear ho hb hg hat; obtain ⟨Ao21, co21, eo21⟩ := Kd.R_slice HO195.out; subst eo21; have p196 : 0 ≤ ((ji11) : Int) := of_decide_eq_true (by first | (with_reducible assumption) | assumption); have q196 : (ji11) < (y193.length : Int) := of_decide_eq_true (by first | (with_reducible assumption) | assumption); obtain ⟨ad196, e196, hx196_0⟩ := Kd.at_bool (Kd.R_reads' HO195.out).2.2 (ji11) p196 q196; cases e196; replace p196 := eq_true p196; replace q196 := eq_true q196; have p14 : 0 ≤ ((ji11) : Int) := of_decide_eq_true (by first | (with_reducible assumption) | assumption); have q14 : ((ji11) : Int) < ((y193.length : Int) : Int) := of_decide_eq_true (by first | (with_reducible assumption) | assumption); obtain ⟨go14, co14, eo14, gb14, gl14, cl14, HG14⟩ := Kd.R_form HO195.out (by omega); (first | cases eo14 | (injection eo14 with ea_ en_ ec_; (first | subst ea_ | (injection ea_ with ea_; subst ea_)); subst ec_; clear en_)); have GB14 := Aside0.mk gb14; have GG14 := Aside0.mk HG14; clear gb14 gl14 HG14; (first | simp only [add_plain] at hx196_0 | skip); obtain ⟨hx14_0, hf14_0⟩ := Kd.R_celln false HO195.out ((ji11) : Int) p14 q14; replace p14 := eq_true p14; replace q14 := eq_true q14; obtain ⟨hy22_, hz22_⟩ := Kd.R_celln false HO195.out ((ji11) : Int) (of_decide_eq_true (by first | (with_reducible assumption) | assumption)) (of_decide_eq_true (by first | (with_reducible assumption) | assumption)); have HP22 := Kd.R_putg HO195.out ((ji11) : Int) (!(rdOf false y193 (ji11)))) | ((with_reducible refine gate_store (t := 4) (p := 40) rfl ?_); (try (rw [drewN_self w20]; generalize hq_ : World.drewN w20 _ = w20; have n0_ := Aside0.mk (Kd.R_at hq_ HO189.out); have n1_ := Aside0.mk (Kd.R_at hq_ HO195.out); have n2_ := Aside0.mk (below_at hq_ HB.out); clear hq_ HO189 HO195 HB; have HO189 := n0_; have HO195 := n1_; have HB := n2_; clear n0_ n1_ n2_; (try (obtain ⟨hy22_, hz22_⟩ := Kd.R_celln false HO195.out ((ji11) : Int) (of_decide_eq_true (by first | (with_reducible assumption) | assumption)) (of_decide_eq_true (by first | (with_reducible assumption) | assumption)))); (try (have HP22 := Kd.R_putg HO195.out ((ji11) : Int) (!(rdOf false y193 (ji11))))))); refine store_event (t := 4) (p := 40) (v := ?vo_w23) (w1 := (w20.setCell ⟨go14, ((ji11) : Int).toNat, none⟩ (.bool (!(rdOf false y193 (ji11)))))) ?hg ?ho ?hn ?hr ?_; (case ho => rfl); (case hg => rfl); (case hn => rfl); (case hr => first | (go_simp; done) | (go_simp; rfl)); intro w23 hw; have hg : w20.grownBy w23 (some go14) := (by rw [hw]; exact HP22.2); have hp_ : Kd.R Kd.bool 4 w23 w.heap.size (fun _ => True) (.slice (some ⟨go14, 0, none⟩) y193.length co21) y197 := (by rw [hw, Ny197.out]; exact HP22.1); clear HP22; have n0_ := Aside0.mk (Kd.R_over' (v := (.slice (some ⟨go14, 0, none⟩) y193.length co21)) (by (with_reducible repeat (first | apply Kd.R_alloc | apply Kd.R_drewN | apply Kd.R_drew)); exact HO189.out) (Kd.R_typed HO195.out) (by decide) hg); have n1_ := Aside0.mk (hp_); have n2_ := Aside0.mk ((by rw [hw]; exact below_set (HB.out) GB14.out : Below w.heap.size w w23)); clear HO189; clear HO195; clear HB; have HO189 := n0_; have HO195 := n1_; have HB := n2_; clear n0_ n1_ n2_; clear hg hw hp_) | (go_at_call 13; refine calls_of_args (args' := #[.slice (some ⟨go14, 0, none⟩) y197.length co21]) (by first | (rw [show y197.length = y193.length from (Kd.R_reads' HO195.out).1.symm] <;> rfl) | rfl) ?_; (with_reducible refine (bits_Pack.calls kj3 _ _ y197 t198 _ ?side1 ?side2 A15.out).mono ?_); (case side1 => repeat (first | exact (Kd.R_reads' HO195.out).2.2 | (with_reducible refine Kd.C_alloc ?_ _) | (with_reducible refine Kd.C_drewN ?_ _) | (with_reducible refine Kd.C_drew ?_))); (case side2 => rw [show y197.length = y193.length from (Kd.R_reads' HO195.out).1.symm]; exact (Kd.R_reads' HO195.out).2.1); rintro e w24 ⟨v199, rfl, ho0, hb⟩; have n0_ := Aside0.mk (Kd.R_elder' (by (with_reducible repeat (first | apply Kd.R_alloc | apply Kd.R_drewN | apply Kd.R_drew)); exact HO189.out) (Kd.R_base ho0) hb); have n1_ := Aside0.mk (Kd.R_below (by (with_reducible repeat (first | apply Kd.R_alloc | apply Kd.R_drewN | apply Kd.R_drew)); exact HO195.out) hb); have n2_ := Aside0.mk (Kd.R_lower (Kd.R_new' ho0 (Kd.R_lt (by (with_reducible repeat (first | apply Kd.R_alloc | apply Kd.R_drewN | apply Kd.R_drew)); exact HO189.out))) (below_size (by repeat (first | (with_reducible first | exact HB.out | apply below_alloc | apply pw_below_drewN | apply below_drew1) | exact HB.out)))); have n3_ := Aside0.mk (below_step (by repeat (first | (with_reducible first | exact HB.out | apply below_alloc | apply pw_below_drewN | apply below_drew1) | exact HB.out)) hb); clear HO189; clear HO195; clear HB; have HO189 := n0_; have HO195 := n1_; have HO200 := n2_; have HB := n3_; clear n0_ n1_ n2_ n3_; (try clear hb); (try clear hb2); (try clear hk); (try clear hi); (try clear ho0)))
                repeat (go_quiet (first | (go_at_call 13; (with_reducible refine (bits_Pack.calls kj3 _ _ l0 t187 _ ?side1 ?side2 A9.out).mono ?_); (case side1 => repeat (first | exact (Kd.C_below HR0.out HB.out) | (with_reducible refine Kd.C_alloc ?_ _) | (with_reducible refine Kd.C_drewN ?_ _) | (with_reducible refine Kd.C_drew ?_))); (case side2 => exact HC0.out); rintro e w17 ⟨v188, rfl, ho0, hb⟩; have n0_ := Aside0.mk (Kd.R_lower ho0 (below_size (by repeat (first | (with_reducible first | exact HB.out | apply below_alloc | apply pw_below_drewN | apply below_drew1) | exact HB.out)))); have n1_ := Aside0.mk (below_step (by repeat (first | (with_reducible first | exact HB.out | apply below_alloc | apply pw_below_drewN | apply below_drew1) | exact HB.out)) hb); clear HB; have HO189 := n0_; have HB := n1_; clear n0_ n1_; (try clear hb); (try clear hb2); (try clear hk); (try clear hi); (try clear ho0)) | ((with_reducible refine gate_dst (N := 30) rfl ?_); (try (refine gate_guard (by rfl) ?_; dsimp only)); refine Kd.R_lit Kd.bool _ 4 ?hg (N := 30) ?hd (xs := ([] : List Bool)) (inner := []) (ok := fun _ => True) (okp := fun _ => True) ?hr ?hp (fun _ hk => hk) trivial (Below.refl _ _) (Nat.le_refl _) (by simp) ?_; (case hd => rfl); (case hg => rfl); (case hr => first | (go_simp; done) | (go_simp; rfl)); (case hp => exact (Reps.none _ _)); intro v191 w18 ho19 hb hg_ hnew_; clear hg_ hnew_; (first | rw [← Ny190.out] at ho19 | (simp only [Int.reduceToNat] at ho19; rw [← Ny190.out] at ho19)); have n0_ := Aside0.mk (Kd.R_below (by (with_reducible repeat (first | apply Kd.R_alloc | apply Kd.R_drewN | apply Kd.R_drew)); exact HO189.out) hb); have n1_ := Aside0.mk (Kd.R_lower ho19 (below_size (by repeat (first | (with_reducible first | exact HB.out | apply below_alloc | apply pw_below_drewN | apply below_drew1) | exact HB.out)))); have n2_ := Aside0.mk (below_step (by repeat (first | (with_reducible first | exact HB.out | apply below_alloc | apply pw_below_drewN | apply below_drew1) | exact HB.out)) hb); clear HO189; clear HB; have HO189 := n0_; have HO192 := n1_; have HB := n2_; clear n0_ n1_ n2_; clear hb ho19) | ((with_reducible refine gate_builtin (b := .append) (xs := #[.tmp 30, .tmp 31]) rfl ?_); (try (refine gate_guard (by rfl) ?_; dsimp only)); at_builtin; refine Kd.R_append_rows Kd.bool (w0 := w) w.heap.size rfl (.tmp 30) (.tmp 31) 22 4 (.bool false) 1 rfl Try.underlying22 info4 rfl (by decide) (by omega) v191 y190 l0 _ _ _ (fun _ => True) (fun _ => False) rfl rfl ?aO ?aR (fun _ _ h => h) (fun _ h => h.elim) ?aF ?aB ?aS ?aL ?_; (case aR => repeat (first | exact (Kd.C_below HR0.out HB.out) | (with_reducible refine Kd.C_alloc ?_ _) | (with_reducible refine Kd.C_drewN ?_ _) | (with_reducible refine Kd.C_drew ?_))); (case aB => exact (by repeat (first | (with_reducible first | exact HB.out | apply below_alloc | apply pw_below_drewN | apply below_drew1) | exact HB.out))); (case aF => exact (fun _ _ => trivial)); (case aO => exact (by (with_reducible repeat (first | apply Kd.R_alloc | apply Kd.R_drewN | apply Kd.R_drew)); exact HO192.out)); (case aS => exact (below_size (by repeat (first | (with_reducible first | exact HB.out | apply below_alloc | apply pw_below_drewN | apply below_drew1) | exact HB.out)))); (case aL => have := LMc10.out; omega); intro v194 w20 ho hb hg hat; rw [← Ny193.out] at ho; have n0_ := Aside0.mk (Kd.R_over' (by (with_reducible repeat (first | apply Kd.R_alloc | apply Kd.R_drewN | apply Kd.R_drew)); exact HO189.out) (Kd.R_typed (by (with_reducible repeat (first | apply Kd.R_alloc | apply Kd.R_drewN | apply Kd.R_drew)); exact HO192.out)) (by decide) hg); have n1_ := Aside0.mk (hb); have n2_ := Aside0.mk (ho); clear HO189; clear HB; clear HO192; have HO189 := n0_; have HB := n1_; have HO195 := n2_; clear n0_ n1_ n2_; clear ho hb hg hat; obtain ⟨Ao21, co21, eo21⟩ := Kd.R_slice HO195.out; subst eo21; have p196 : 0 ≤ ((ji11) : Int) := of_decide_eq_true (by first | (with_reducible assumption) | assumption); have q196 : (ji11) < (y193.length : Int) := of_decide_eq_true (by first | (with_reducible assumption) | assumption); obtain ⟨ad196, e196, hx196_0⟩ := Kd.at_bool (Kd.R_reads' HO195.out).2.2 (ji11) p196 q196; cases e196; replace p196 := eq_true p196; replace q196 := eq_true q196; have p14 : 0 ≤ ((ji11) : Int) := of_decide_eq_true (by first | (with_reducible assumption) | assumption); have q14 : ((ji11) : Int) < ((y193.length : Int) : Int) := of_decide_eq_true (by first | (with_reducible assumption) | assumption); obtain ⟨go14, co14, eo14, gb14, gl14, cl14, HG14⟩ := Kd.R_form HO195.out (by omega); (first | cases eo14 | (injection eo14 with ea_ en_ ec_; (first | subst ea_ | (injection ea_ with ea_; subst ea_)); subst ec_; clear en_)); have GB14 := Aside0.mk gb14; have GG14 := Aside0.mk HG14; clear gb14 gl14 HG14; (first | simp only [add_plain] at hx196_0 | skip); obtain ⟨hx14_0, hf14_0⟩ := Kd.R_celln false HO195.out ((ji11) : Int) p14 q14; replace p14 := eq_true p14; replace q14 := eq_true q14; obtain ⟨hy22_, hz22_⟩ := Kd.R_celln false HO195.out ((ji11) : Int) (of_decide_eq_true (by first | (with_reducible assumption) | assumption)) (of_decide_eq_true (by first | (with_reducible assumption) | assumption)); have HP22 := Kd.R_putg HO195.out ((ji11) : Int) (!(rdOf false y193 (ji11)))) | ((with_reducible refine gate_store (t := 4) (p := 40) rfl ?_); (try (rw [drewN_self w20]; generalize hq_ : World.drewN w20 _ = w20; have n0_ := Aside0.mk (Kd.R_at hq_ HO189.out); have n1_ := Aside0.mk (Kd.R_at hq_ HO195.out); have n2_ := Aside0.mk (below_at hq_ HB.out); clear hq_ HO189 HO195 HB; have HO189 := n0_; have HO195 := n1_; have HB := n2_; clear n0_ n1_ n2_; (try (obtain ⟨hy22_, hz22_⟩ := Kd.R_celln false HO195.out ((ji11) : Int) (of_decide_eq_true (by first | (with_reducible assumption) | assumption)) (of_decide_eq_true (by first | (with_reducible assumption) | assumption)))); (try (have HP22 := Kd.R_putg HO195.out ((ji11) : Int) (!(rdOf false y193 (ji11))))))); refine store_event (t := 4) (p := 40) (v := ?vo_w23) (w1 := (w20.setCell ⟨go14, ((ji11) : Int).toNat, none⟩ (.bool (!(rdOf false y193 (ji11)))))) ?hg ?ho ?hn ?hr ?_; (case ho => rfl); (case hg => rfl); (case hn => rfl); (case hr => first | (go_simp; done) | (go_simp; rfl)); intro w23 hw; have hg : w20.grownBy w23 (some go14) := (by rw [hw]; exact HP22.2); have hp_ : Kd.R Kd.bool 4 w23 w.heap.size (fun _ => True) (.slice (some ⟨go14, 0, none⟩) y193.length co21) y197 := (by rw [hw, Ny197.out]; exact HP22.1); clear HP22; have n0_ := Aside0.mk (Kd.R_over' (v := (.slice (some ⟨go14, 0, none⟩) y193.length co21)) (by (with_reducible repeat (first | apply Kd.R_alloc | apply Kd.R_drewN | apply Kd.R_drew)); exact HO189.out) (Kd.R_typed HO195.out) (by decide) hg); have n1_ := Aside0.mk (hp_); have n2_ := Aside0.mk ((by rw [hw]; exact below_set (HB.out) GB14.out : Below w.heap.size w w23)); clear HO189; clear HO195; clear HB; have HO189 := n0_; have HO195 := n1_; have HB := n2_; clear n0_ n1_ n2_; clear hg hw hp_) | (go_at_call 13; refine calls_of_args (args' := #[.slice (some ⟨go14, 0, none⟩) y197.length co21]) (by first | (rw [show y197.length = y193.length from (Kd.R_reads' HO195.out).1.symm] <;> rfl) | rfl) ?_; (with_reducible refine (bits_Pack.calls kj3 _ _ y197 t198 _ ?side1 ?side2 A15.out).mono ?_); (case side1 => repeat (first | exact (Kd.R_reads' HO195.out).2.2 | (with_reducible refine Kd.C_alloc ?_ _) | (with_reducible refine Kd.C_drewN ?_ _) | (with_reducible refine Kd.C_drew ?_))); (case side2 => rw [show y197.length = y193.length from (Kd.R_reads' HO195.out).1.symm]; exact (Kd.R_reads' HO195.out).2.1); rintro e w24 ⟨v199, rfl, ho0, hb⟩; have n0_ := Aside0.mk (Kd.R_elder' (by (with_reducible repeat (first | apply Kd.R_alloc | apply Kd.R_drewN | apply Kd.R_drew)); exact HO189.out) (Kd.R_base ho0) hb); have n1_ := Aside0.mk (Kd.R_below (by (with_reducible repeat (first | apply Kd.R_alloc | apply Kd.R_drewN | apply Kd.R_drew)); exact HO195.out) hb); have n2_ := Aside0.mk (Kd.R_lower (Kd.R_new' ho0 (Kd.R_lt (by (with_reducible repeat (first | apply Kd.R_alloc | apply Kd.R_drewN | apply Kd.R_drew)); exact HO189.out))) (below_size (by repeat (first | (with_reducible first | exact HB.out | apply below_alloc | apply pw_below_drewN | apply below_drew1) | exact HB.out)))); have n3_ := Aside0.mk (below_step (by repeat (first | (with_reducible first | exact HB.out | apply below_alloc | apply pw_below_drewN | apply below_drew1) | exact HB.out)) hb); clear HO189; clear HO195; clear HB; have HO189 := n0_; have HO195 := n1_; have HO200 := n2_; have HB := n3_; clear n0_ n1_ n2_ n3_; (try clear hb); (try clear hb2); (try clear hk); (try clear hi); (try clear ho0))); go_upto_region 9 with (first | (go_at_call 13; (with_reducible refine (bits_Pack.calls kj3 _ _ l0 t187 _ ?side1 ?side2 A9.out).mono ?_); (case side1 => repeat (first | exact (Kd.C_below HR0.out HB.out) | (with_reducible refine Kd.C_alloc ?_ _) | (with_reducible refine Kd.C_drewN ?_ _) | (with_reducible refine Kd.C_drew ?_))); (case side2 => exact HC0.out); rintro e w17 ⟨v188, rfl, ho0, hb⟩; have n0_ := Aside0.mk (Kd.R_lower ho0 (below_size (by repeat (first | (with_reducible first | exact HB.out | apply below_alloc | apply pw_below_drewN | apply below_drew1) | exact HB.out)))); have n1_ := Aside0.mk (below_step (by repeat (first | (with_reducible first | exact HB.out | apply below_alloc | apply pw_below_drewN | apply below_drew1) | exact HB.out)) hb); clear HB; have HO189 := n0_; have HB := n1_; clear n0_ n1_; (try clear hb); (try clear hb2); (try clear hk); (try clear hi); (try clear ho0)) | ((with_reducible refine gate_dst (N := 30) rfl ?_); (try (refine gate_guard (by rfl) ?_; dsimp only)); refine Kd.R_lit Kd.bool _ 4 ?hg (N := 30) ?hd (xs := ([] : List Bool)) (inner := []) (ok := fun _ => True) (okp := fun _ => True) ?hr ?hp (fun _ hk => hk) trivial (Below.refl _ _) (Nat.le_refl _) (by simp) ?_; (case hd => rfl); (case hg => rfl); (case hr => first | (go_simp; done) | (go_simp; rfl)); (case hp => exact (Reps.none _ _)); intro v191 w18 ho19 hb hg_ hnew_; clear hg_ hnew_; (first | rw [← Ny190.out] at ho19 | (simp only [Int.reduceToNat] at ho19; rw [← Ny190.out] at ho19)); have n0_ := Aside0.mk (Kd.R_below (by (with_reducible repeat (first | apply Kd.R_alloc | apply Kd.R_drewN | apply Kd.R_drew)); exact HO189.out) hb); have n1_ := Aside0.mk (Kd.R_lower ho19 (below_size (by repeat (first | (with_reducible first | exact HB.out | apply below_alloc | apply pw_below_drewN | apply below_drew1) | exact HB.out)))); have n2_ := Aside0.mk (below_step (by repeat (first | (with_reducible first | exact HB.out | apply below_alloc | apply pw_below_drewN | apply below_drew1) | exact HB.out)) hb); clear HO189; clear HB; have HO189 := n0_; have HO192 := n1_; have HB := n2_; clear n0_ n1_ n2_; clear hb ho19) | ((with_reducible refine gate_builtin (b := .append) (xs := #[.tmp 30, .tmp 31]) rfl ?_); (try (refine gate_guard (by rfl) ?_; dsimp only)); at_builtin; refine Kd.R_append_rows Kd.bool (w0 := w) w.heap.size rfl (.tmp 30) (.tmp 31) 22 4 (.bool false) 1 rfl Try.underlying22 info4 rfl (by decide) (by omega) v191 y190 l0 _ _ _ (fun _ => True) (fun _ => False) rfl rfl ?aO ?aR (fun _ _ h => h) (fun _ h => h.elim) ?aF ?aB ?aS ?aL ?_; (case aR => repeat (first | exact (Kd.C_below HR0.out HB.out) | (with_reducible refine Kd.C_alloc ?_ _) | (with_reducible refine Kd.C_drewN ?_ _) | (with_reducible refine Kd.C_drew ?_))); (case aB => exact (by repeat (first | (with_reducible first | exact HB.out | apply below_alloc | apply pw_below_drewN | apply below_drew1) | exact HB.out))); (case aF => exact (fun _ _ => trivial)); (case aO => exact (by (with_reducible repeat (first | apply Kd.R_alloc | apply Kd.R_drewN | apply Kd.R_drew)); exact HO192.out)); (case aS => exact (below_size (by repeat (first | (with_reducible first | exact HB.out | apply below_alloc | apply pw_below_drewN | apply below_drew1) | exact HB.out)))); (case aL => have := LMc10.out; omega); intro v194 w20 ho hb hg hat; rw [← Ny193.out] at ho; have n0_ := Aside0.mk (Kd.R_over' (by (with_reducible repeat (first | apply Kd.R_alloc | apply Kd.R_drewN | apply Kd.R_drew)); exact HO189.out) (Kd.R_typed (by (with_reducible repeat (first | apply Kd.R_alloc | apply Kd.R_drewN | apply Kd.R_drew)); exact HO192.out)) (by decide) hg); have n1_ := Aside0.mk (hb); have n2_ := Aside0.mk (ho); clear HO189; clear HB; clear HO192; have HO189 := n0_; have HB := n1_; have HO195 := n2_; clear n0_ n1_ n2_; clear ho hb hg hat; obtain ⟨Ao21, co21, eo21⟩ := Kd.R_slice HO195.out; subst eo21; have p196 : 0 ≤ ((ji11) : Int) := of_decide_eq_true (by first | (with_reducible assumption) | assumption); have q196 : (ji11) < (y193.length : Int) := of_decide_eq_true (by first | (with_reducible assumption) | assumption); obtain ⟨ad196, e196, hx196_0⟩ := Kd.at_bool (Kd.R_reads' HO195.out).2.2 (ji11) p196 q196; cases e196; replace p196 := eq_true p196; replace q196 := eq_true q196; have p14 : 0 ≤ ((ji11) : Int) := of_decide_eq_true (by first | (with_reducible assumption) | assumption); have q14 : ((ji11) : Int) < ((y193.length : Int) : Int) := of_decide_eq_true (by first | (with_reducible assumption) | assumption); obtain ⟨go14, co14, eo14, gb14, gl14, cl14, HG14⟩ := Kd.R_form HO195.out (by omega); (first | cases eo14 | (injection eo14 with ea_ en_ ec_; (first | subst ea_ | (injection ea_ with ea_; subst ea_)); subst ec_; clear en_)); have GB14 := Aside0.mk gb14; have GG14 := Aside0.mk HG14; clear gb14 gl14 HG14; (first | simp only [add_plain] at hx196_0 | skip); obtain ⟨hx14_0, hf14_0⟩ := Kd.R_celln false HO195.out ((ji11) : Int) p14 q14; replace p14 := eq_true p14; replace q14 := eq_true q14; obtain ⟨hy22_, hz22_⟩ := Kd.R_celln false HO195.out ((ji11) : Int) (of_decide_eq_true (by first | (with_reducible assumption) | assumption)) (of_decide_eq_true (by first | (with_reducible assumption) | assumption)); have HP22 := Kd.R_putg HO195.out ((ji11) : Int) (!(rdOf false y193 (ji11)))) | ((with_reducible refine gate_store (t := 4) (p := 40) rfl ?_); (try (rw [drewN_self w20]; generalize hq_ : World.drewN w20 _ = w20; have n0_ := Aside0.mk (Kd.R_at hq_ HO189.out); have n1_ := Aside0.mk (Kd.R_at hq_ HO195.out); have n2_ := Aside0.mk (below_at hq_ HB.out); clear hq_ HO189 HO195 HB; have HO189 := n0_; have HO195 := n1_; have HB := n2_; clear n0_ n1_ n2_; (try (obtain ⟨hy22_, hz22_⟩ := Kd.R_celln false HO195.out ((ji11) : Int) (of_decide_eq_true (by first | (with_reducible assumption) | assumption)) (of_decide_eq_true (by first | (with_reducible assumption) | assumption)))); (try (have HP22 := Kd.R_putg HO195.out ((ji11) : Int) (!(rdOf false y193 (ji11))))))); refine store_event (t := 4) (p := 40) (v := ?vo_w23) (w1 := (w20.setCell ⟨go14, ((ji11) : Int).toNat, none⟩ (.bool (!(rdOf false y193 (ji11)))))) ?hg ?ho ?hn ?hr ?_; (case ho => rfl); (case hg => rfl); (case hn => rfl); (case hr => first | (go_simp; done) | (go_simp; rfl)); intro w23 hw; have hg : w20.grownBy w23 (some go14) := (by rw [hw]; exact HP22.2); have hp_ : Kd.R Kd.bool 4 w23 w.heap.size (fun _ => True) (.slice (some ⟨go14, 0, none⟩) y193.length co21) y197 := (by rw [hw, Ny197.out]; exact HP22.1); clear HP22; have n0_ := Aside0.mk (Kd.R_over' (v := (.slice (some ⟨go14, 0, none⟩) y193.length co21)) (by (with_reducible repeat (first | apply Kd.R_alloc | apply Kd.R_drewN | apply Kd.R_drew)); exact HO189.out) (Kd.R_typed HO195.out) (by decide) hg); have n1_ := Aside0.mk (hp_); have n2_ := Aside0.mk ((by rw [hw]; exact below_set (HB.out) GB14.out : Below w.heap.size w w23)); clear HO189; clear HO195; clear HB; have HO189 := n0_; have HO195 := n1_; have HB := n2_; clear n0_ n1_ n2_; clear hg hw hp_) | (go_at_call 13; refine calls_of_args (args' := #[.slice (some ⟨go14, 0, none⟩) y197.length co21]) (by first | (rw [show y197.length = y193.length from (Kd.R_reads' HO195.out).1.symm] <;> rfl) | rfl) ?_; (with_reducible refine (bits_Pack.calls kj3 _ _ y197 t198 _ ?side1 ?side2 A15.out).mono ?_); (case side1 => repeat (first | exact (Kd.R_reads' HO195.out).2.2 | (with_reducible refine Kd.C_alloc ?_ _) | (with_reducible refine Kd.C_drewN ?_ _) | (with_reducible refine Kd.C_drew ?_))); (case side2 => rw [show y197.length = y193.length from (Kd.R_reads' HO195.out).1.symm]; exact (Kd.R_reads' HO195.out).2.1); rintro e w24 ⟨v199, rfl, ho0, hb⟩; have n0_ := Aside0.mk (Kd.R_elder' (by (with_reducible repeat (first | apply Kd.R_alloc | apply Kd.R_drewN | apply Kd.R_drew)); exact HO189.out) (Kd.R_base ho0) hb); have n1_ := Aside0.mk (Kd.R_below (by (with_reducible repeat (first | apply Kd.R_alloc | apply Kd.R_drewN | apply Kd.R_drew)); exact HO195.out) hb); have n2_ := Aside0.mk (Kd.R_lower (Kd.R_new' ho0 (Kd.R_lt (by (with_reducible repeat (first | apply Kd.R_alloc | apply Kd.R_drewN | apply Kd.R_drew)); exact HO189.out))) (below_size (by repeat (first | (with_reducible first | exact HB.out | apply below_alloc | apply pw_below_drewN | apply below_drew1) | exact HB.out)))); have n3_ := Aside0.mk (below_step (by repeat (first | (with_reducible first | exact HB.out | apply below_alloc | apply pw_below_drewN | apply below_drew1) | exact HB.out)) hb); clear HO189; clear HO195; clear HB; have HO189 := n0_; have HO195 := n1_; have HO200 := n2_; have HB := n3_; clear n0_ n1_ n2_ n3_; (try clear hb); (try clear hb2); (try clear hk); (try clear hi); (try clear ho0))))
                (try simp only [Act.put, List.setIfInBounds_toArray, List.set_cons_zero, List.set_cons_succ])
                go_cut [56] (fun v56 wc => ∃ (kq : Nat) (x56_15 : Bool), v56 = .bool x56_15 ∧ Aside0 (busbarlaw05_BitsOne.j1 kq l0 t186 ji11 t187 t198 x56_15 = some r) ∧ Aside0 (kq ≤ kj3) ∧ Aside0 (Kd.R (Kd.int .u8) 5 wc w.heap.size (fun k_ => some k_ ≠ (v199 : Value).ownBlock) v188 t187) ∧ Aside0 (Kd.R (Kd.int .u8) 5 wc w.heap.size (fun k_ => some k_ ≠ (v188 : Value).ownBlock) v199 t198) ∧ Aside0 (Below w.heap.size w wc))
                case first =>
                  have H := HC16.out
                  clear HC16
                  by_cases c25 : (t187.length : Int) = (wrap64 (Int.tdiv (wrap64 ((l0.length : Int) + 7)) 8))
                  · rw [if_pos c25] at H
                    have c25b0 : ((t187.length : Int) == (wrap64 (Int.tdiv (wrap64 ((l0.length : Int) + 7)) 8))) = true := beq_iff_eq.mpr c25
                    have c25b1 : ((t187.length : Int) != (wrap64 (Int.tdiv (wrap64 ((l0.length : Int) + 7)) 8))) = false := bne_eq_false_iff_eq.mpr c25
                    clear c25
                    (first | rw [c25b0] | (simp only [i64_w, i32_w]; rw [c25b0]) | skip)
                    have H' := Aside0.mk H
                    clear H
                    obtain ⟨Ao26, co26, eo26⟩ := Kd.R_slice HO189.out
                    subst eo26
                    obtain ⟨Ao27, co27, eo27⟩ := Kd.R_slice HO200.out
                    subst eo27
                    go_wp2
                    repeat (go_quiet (fail); try go_wp2)
                    go_meet
                    case rel => exact ⟨_, (((t198.length : Int) != (t187.length : Int))), (by first | rfl | (simp; done) | (simp [*]; done)), H', ⟨by have := HJ3.out; first | omega | exact Nat.le_refl _⟩, ⟨by (with_reducible repeat (first | apply Kd.R_alloc | apply Kd.R_drewN | apply Kd.R_drew)); exact Kd.R_mono HO189.out (fun _ hk => hk.2)⟩, ⟨by (with_reducible repeat (first | apply Kd.R_alloc | apply Kd.R_drewN | apply Kd.R_drew)); exact Kd.R_mono HO200.out (fun _ hk => hk.2)⟩, ⟨by repeat (first | (with_reducible first | exact HB.out | apply below_alloc | apply pw_below_drewN | apply below_drew1) | exact HB.out)⟩⟩
                  · rw [if_neg c25] at H
                    have c25b0 : ((t187.length : Int) == (wrap64 (Int.tdiv (wrap64 ((l0.length : Int) + 7)) 8))) = false := beq_eq_false_iff_ne.mpr c25
                    have c25b1 : ((t187.length : Int) != (wrap64 (Int.tdiv (wrap64 ((l0.length : Int) + 7)) 8))) = true := bne_iff_ne.mpr c25
                    (first | rw [c25b0] | (simp only [i64_w, i32_w]; rw [c25b0]) | skip)
                    have H' := Aside0.mk H
                    clear H
                    obtain ⟨Ao28, co28, eo28⟩ := Kd.R_slice HO189.out
                    subst eo28
                    go_wp2
                    repeat (go_quiet (fail); try go_wp2)
                    go_meet
                    case rel => exact ⟨_, (true), (by first | rfl | (simp; done) | (simp [*]; done)), H', ⟨by have := HJ3.out; first | omega | exact Nat.le_refl _⟩, ⟨by (with_reducible repeat (first | apply Kd.R_alloc | apply Kd.R_drewN | apply Kd.R_drew)); exact Kd.R_mono HO189.out (fun _ hk => hk.2)⟩, ⟨by (with_reducible repeat (first | apply Kd.R_alloc | apply Kd.R_drewN | apply Kd.R_drew)); exact Kd.R_mono HO200.out (fun _ hk => hk.2)⟩, ⟨by repeat (first | (with_reducible first | exact HB.out | apply below_alloc | apply pw_below_drewN | apply below_drew1) | exact HB.out)⟩⟩
                case rest =>
                  clear HC16
                  try clear c1
                  try clear p1
                  try clear q1
                  try clear hx1
                  try clear c2
                  try clear p2
                  try clear c5
                  try clear c6
                  try clear c6b0
                  try clear c6b1
                  try clear p6
                  try clear c7
                  try clear c8
                  try clear c8b0
                  try clear c8b1
                  try clear c8b2
                  try clear c10
                  try clear c12
                  try clear c12b0
                  try clear c13
                  try clear c13b0
                  try clear p14
                  try clear q14
                  try clear hx14
                  try clear hf14
                  try clear p19
                  try clear q19
                  try clear hx19
                  try clear c25
                  try clear c25b0
                  try clear c25b1
                  try clear hx14_0
                  try clear hx196_0
                  try clear p14
                  try clear p196
                  try clear p2
                  try clear q14
                  try clear q196
                  obtain ⟨kq, x56_15, rfl, HA, HJ15, HO_7, HO_9, HB⟩ := hcut
                  cases kq with
                  | zero => exact absurd HA.out (by simp [busbarlaw05_BitsOne.j1])
                  | succ kj15 =>
                    have H := HA.out
                    clear HA
                    simp only [busbarlaw05_BitsOne.j1] at H
                    by_cases c29 : x56_15 = true
                    · subst c29
                      have H1 : (some false) = some r := by rw [if_pos rfl] at H; exact H
                      clear H
                      have H := H1
                      clear H1
                      obtain rfl := Option.some.inj H
                      go_wp2
                      repeat (go_quiet (fail); try go_wp2)
                      go_ret
                      exact ⟨by first | rfl | (simp [errW_none, errW_some] <;> rfl) | (simp only [← hji11]; first | rfl | (simp [errW_none, errW_some] <;> rfl)) | (simp [*, errW_none, errW_some] <;> rfl), by repeat (first | (with_reducible first | exact HB.out | apply below_alloc | apply pw_below_drewN | apply below_drew1) | exact HB.out)⟩
                    · replace c29 := Bool.eq_false_iff.mpr c29
                      subst c29
                      have H1 : (busbarlaw05_BitsOne.l0 kj15 l0 t186 ji11 t187 t198 0) = some r := by rw [if_neg (show ¬ (false = true) by decide)] at H; exact H
                      clear H
                      have H := H1
                      clear H1
                      have H' := Aside0.mk H
                      clear H
                      go_wp2
                      repeat (go_quiet (fail); try go_wp2)
                      go_loopg [10] kj15 (fun kq v10 w' => ∃ (x10_3 : Int), v10 = .int .i64 x10_3 ∧ Aside0 (busbarlaw05_BitsOne.l0 kq l0 t186 ji11 t187 t198 x10_3 = some r) ∧ Aside0 (kq ≤ kj15) ∧ Aside0 (Kd.R (Kd.int .u8) 5 w' w.heap.size (fun k_ => some k_ ≠ (v199 : Value).ownBlock) v188 t187) ∧ Aside0 (Kd.R (Kd.int .u8) 5 w' w.heap.size (fun k_ => some k_ ≠ (v188 : Value).ownBlock) v199 t198) ∧ Aside0 (Below w.heap.size w w'))
                      case atStart => exact ⟨(0), (by first | rfl | (simp; done) | (simp [*]; done)), H', ⟨Nat.le_refl _⟩, ⟨by (with_reducible repeat (first | apply Kd.R_alloc | apply Kd.R_drewN | apply Kd.R_drew)); exact HO_7.out⟩, ⟨by (with_reducible repeat (first | apply Kd.R_alloc | apply Kd.R_drewN | apply Kd.R_drew)); exact HO_9.out⟩, ⟨by repeat (first | (with_reducible first | exact HB.out | apply below_alloc | apply pw_below_drewN | apply below_drew1) | exact HB.out)⟩⟩
                      case round =>
                        clear H'
                        try clear c1
                        try clear p1
                        try clear q1
                        try clear hx1
                        try clear c2
                        try clear p2
                        try clear c5
                        try clear c6
                        try clear c6b0
                        try clear c6b1
                        try clear p6
                        try clear c7
                        try clear c8
                        try clear c8b0
                        try clear c8b1
                        try clear c8b2
                        try clear c10
                        try clear c12
                        try clear c12b0
                        try clear c13
                        try clear c13b0
                        try clear p14
                        try clear q14
                        try clear hx14
                        try clear hf14
                        try clear p19
                        try clear q19
                        try clear hx19
                        try clear c25
                        try clear c25b0
                        try clear c25b1
                        try clear c29
                        try clear hx14_0
                        try clear hx196_0
                        try clear p1
                        try clear p14
                        try clear p19
                        try clear p196
                        try clear p2
                        try clear p6
                        try clear q1
                        try clear q14
                        try clear q19
                        try clear q196
                        obtain ⟨x10_3, rfl, HA, HK3, HO_7, HO_9, HB⟩ := hrel
                        cases gk with
                        | zero => exact absurd HA.out (by simp [busbarlaw05_BitsOne.l0])
                        | succ k3 =>
                          have H := HA.out
                          clear HA
                          simp only [busbarlaw05_BitsOne.l0] at H
                          by_cases c30 : x10_3 < (t187.length : Int)
                          · rw [if_pos c30] at H
                            have c30b0 : decide (x10_3 < (t187.length : Int)) = true := decide_eq_true c30
                            clear c30
                            by_cases c31 : 0 ≤ x10_3
                            · rw [if_pos c31] at H
                              have c31b0 : decide (0 ≤ x10_3) = true := decide_eq_true c31
                              clear c31
                              by_cases c32 : x10_3 < (t198.length : Int)
                              · rw [if_pos c32] at H
                                have c32b0 : decide (x10_3 < (t198.length : Int)) = true := decide_eq_true c32
                                clear c32
                                by_cases c33 : (((rd t187 x10_3) == (rd t198 x10_3)) == (x10_3 == (wrap64 (Int.tdiv ji11 8)))) = true
                                · rw [if_pos c33] at H
                                  have c33b0 : (((rd t187 x10_3) == (rd t198 x10_3)) == (x10_3 == (wrap64 (Int.tdiv ji11 8)))) = true := c33
                                  (try (have c33b1 : decide (((rd t187 x10_3) == (rd t198 x10_3)) = (x10_3 == (wrap64 (Int.tdiv ji11 8)))) = true := by simpa using c33))
                                  (try (have c33b2 : (((rd t187 x10_3) == (rd t198 x10_3)) == (x10_3 == (wrap64 (Int.tdiv ji11 8)))) = true := by simpa using c33))
                                  clear c33
                                  obtain rfl := Option.some.inj H
                                  obtain ⟨Ao34, co34, eo34⟩ := Kd.R_slice HO_7.out
                                  subst eo34
                                  have p201 : 0 ≤ (x10_3 : Int) := of_decide_eq_true (by first | (with_reducible assumption) | assumption)
                                  have q201 : x10_3 < (t187.length : Int) := of_decide_eq_true (by first | (with_reducible assumption) | assumption)
                                  obtain ⟨ad201, e201, hx201_0⟩ := Kd.at_int (Kd.R_reads' HO_7.out).2.2 x10_3 p201 q201
                                  cases e201
                                  replace p201 := eq_true p201
                                  replace q201 := eq_true q201
                                  obtain ⟨Ao35, co35, eo35⟩ := Kd.R_slice HO_9.out
                                  subst eo35
                                  have p202 : 0 ≤ (x10_3 : Int) := of_decide_eq_true (by first | (with_reducible assumption) | assumption)
                                  have q202 : x10_3 < (t198.length : Int) := of_decide_eq_true (by first | (with_reducible assumption) | assumption)
                                  obtain ⟨ad202, e202, hx202_0⟩ := Kd.at_int (Kd.R_reads' HO_9.out).2.2 x10_3 p202 q202
                                  cases e202
                                  replace p202 := eq_true p202
                                  replace q202 := eq_true q202
                                  go_wp2
                                  repeat (go_quiet (fail); try go_wp2)
                                  go_ret
                                  exact ⟨by first | rfl | (simp [errW_none, errW_some] <;> rfl) | (simp only [← hji11]; first | rfl | (simp [errW_none, errW_some] <;> rfl)) | (simp [*, errW_none, errW_some] <;> rfl), by repeat (first | (with_reducible first | exact HB.out | apply below_alloc | apply pw_below_drewN | apply below_drew1) | exact HB.out)⟩
                                · rw [if_neg c33] at H
                                  have c33b0 : (((rd t187 x10_3) == (rd t198 x10_3)) == (x10_3 == (wrap64 (Int.tdiv ji11 8)))) = false := by simpa using c33
                                  (try (have c33b1 : decide (((rd t187 x10_3) == (rd t198 x10_3)) = (x10_3 == (wrap64 (Int.tdiv ji11 8)))) = false := by simpa using c33))
                                  (try (have c33b2 : (((rd t187 x10_3) == (rd t198 x10_3)) == (x10_3 == (wrap64 (Int.tdiv ji11 8)))) = false := by simpa using c33))
                                  (try (have c33b3 : ¬ (((rd t187 x10_3) == (rd t198 x10_3)) = (x10_3 == (wrap64 (Int.tdiv ji11 8)))) := by simpa using c33))
                                  clear c33
                                  have H' := Aside0.mk H
                                  clear H
                                  obtain ⟨Ao36, co36, eo36⟩ := Kd.R_slice HO_7.out
                                  subst eo36
                                  have p201 : 0 ≤ (x10_3 : Int) := of_decide_eq_true (by first | (with_reducible assumption) | assumption)
                                  have q201 : x10_3 < (t187.length : Int) := of_decide_eq_true (by first | (with_reducible assumption) | assumption)
                                  obtain ⟨ad201, e201, hx201_0⟩ := Kd.at_int (Kd.R_reads' HO_7.out).2.2 x10_3 p201 q201
                                  cases e201
                                  replace p201 := eq_true p201
                                  replace q201 := eq_true q201
                                  obtain ⟨Ao37, co37, eo37⟩ := Kd.R_slice HO_9.out
                                  subst eo37
                                  have p202 : 0 ≤ (x10_3 : Int) := of_decide_eq_true (by first | (with_reducible assumption) | assumption)
                                  have q202 : x10_3 < (t198.length : Int) := of_decide_eq_true (by first | (with_reducible assumption) | assumption)
                                  obtain ⟨ad202, e202, hx202_0⟩ := Kd.at_int (Kd.R_reads' HO_9.out).2.2 x10_3 p202 q202
                                  cases e202
                                  replace p202 := eq_true p202
                                  replace q202 := eq_true q202
                                  go_wp2
                                  repeat (go_quiet (fail); try go_wp2)
                                  go_roundg k3
                                  case measure => have := HJ3.out; have := HJ15.out; have := HK3.out; omega
                                  case rel => exact ⟨(wrap64 (x10_3 + 1)), (by first | rfl | (simp; done) | (simp [*]; done)), H', ⟨by have := HJ3.out; have := HJ15.out; have := HK3.out; omega⟩, ⟨by (with_reducible repeat (first | apply Kd.R_alloc | apply Kd.R_drewN | apply Kd.R_drew)); exact HO_7.out⟩, ⟨by (with_reducible repeat (first | apply Kd.R_alloc | apply Kd.R_drewN | apply Kd.R_drew)); exact HO_9.out⟩, ⟨by repeat (first | (with_reducible first | exact HB.out | apply below_alloc | apply pw_below_drewN | apply below_drew1) | exact HB.out)⟩⟩
                              · rw [if_neg c32] at H
                                exact absurd H (by simp)
                            · rw [if_neg c31] at H
                              exact absurd H (by simp)
                          · rw [if_neg c30] at H
                            have c30b0 : decide (x10_3 < (t187.length : Int)) = false := decide_eq_false c30
                            clear c30
                            by_cases c38 : ((l0.length : Int) % 8) = 0
                            · rw [if_pos c38] at H
                              have c38b0 : (((l0.length : Int) % 8) == 0) = true := beq_iff_eq.mpr c38
                              have c38b1 : (((l0.length : Int) % 8) != 0) = false := bne_eq_false_iff_eq.mpr c38
                              clear c38
                              obtain rfl := Option.some.inj H
                              obtain ⟨Ao39, co39, eo39⟩ := Kd.R_slice HO_7.out
                              subst eo39
                              go_wp2
                              repeat (go_quiet (fail); try go_wp2)
                              go_ret
                              exact ⟨by first | rfl | (simp [errW_none, errW_some] <;> rfl) | (simp only [← hji11]; first | rfl | (simp [errW_none, errW_some] <;> rfl)) | (simp [*, errW_none, errW_some] <;> rfl), by repeat (first | (with_reducible first | exact HB.out | apply below_alloc | apply pw_below_drewN | apply below_drew1) | exact HB.out)⟩
                            · rw [if_neg c38] at H
                              have c38b0 : (((l0.length : Int) % 8) == 0) = false := beq_eq_false_iff_ne.mpr c38
                              have c38b1 : (((l0.length : Int) % 8) != 0) = true := bne_iff_ne.mpr c38
                              obtain ⟨ji40, hji40⟩ : ∃ j_ : Int, (wrap64 ((t187.length : Int) - 1)) = j_ := ⟨_, rfl⟩
                              replace H : (if 0 ≤ (ji40) then (if (ji40) < (t187.length : Int) then ((bits_Unpack.f k3 (t187.set ((ji40) : Int).toNat (Go.bits .or .u8 (rd t187 (ji40)) 128)) (l0.length : Int)).bind fun bt205 => (if t186 = true then (some (!bt205.2)) else (some false))) else (none)) else (none)) = some r := by first | (rw [hji40] at H; exact H) | (simp only [hji40] at H ⊢; exact H)
                              have hji40w : (IntKind.i64.wrap ((t187.length : Int) - 1)) = ji40 := (i64_w _).trans hji40
                              by_cases c41 : 0 ≤ (ji40)
                              · rw [if_pos c41] at H
                                have c41b0 : decide (0 ≤ (ji40)) = true := decide_eq_true c41
                                clear c41
                                by_cases c42 : (ji40) < (t187.length : Int)
                                · rw [if_pos c42] at H
                                  have c42b0 : decide ((ji40) < (t187.length : Int)) = true := decide_eq_true c42
                                  clear c42
                                  obtain ⟨y204, hy204⟩ : ∃ y_ : List Int, y_ = (t187.set ((ji40) : Int).toNat (Go.bits .or .u8 (rd t187 (ji40)) 128)) := ⟨_, rfl⟩
                                  replace H : ((bits_Unpack.f k3 y204 (l0.length : Int)).bind fun bt205 => (if t186 = true then (some (!bt205.2)) else (some false))) = some r := by first | (rw [hy204]; with_reducible exact H) | (have H2_ := (Option.bind_some _ _).symm.trans H; rw [hy204]; with_reducible exact H2_) | (have H2_ := (Option.bind_some _ _).symm.trans H; with_reducible exact H2_) | with_reducible exact H | (rw [hy204]; exact H) | exact H
                                  have Ny204 := Aside0.mk hy204
                                  clear hy204
                                  replace H := Option.bind_eq_some_iff.mp H
                                  obtain ⟨⟨t205, t206⟩, A440, H⟩ := H
                                  replace H : (if t186 = true then (some (!t206)) else (some false)) = some r := H
                                  have A44 := Aside0.mk A440
                                  clear A440
                                  by_cases c45 : t186 = true
                                  · subst c45
                                    have H1 : (some (!t206)) = some r := by rw [if_pos rfl] at H; exact H
                                    clear H
                                    have H := H1
                                    clear H1
                                    obtain rfl := Option.some.inj H
                                    obtain ⟨Ao46, co46, eo46⟩ := Kd.R_slice HO_7.out
                                    subst eo46
                                    have p203 : 0 ≤ ((ji40) : Int) := of_decide_eq_true (by first | (with_reducible assumption) | assumption)
                                    have q203 : (ji40) < (t187.length : Int) := of_decide_eq_true (by first | (with_reducible assumption) | assumption)
                                    obtain ⟨ad203, e203, hx203_0⟩ := Kd.at_int (Kd.R_reads' HO_7.out).2.2 (ji40) p203 q203
                                    cases e203
                                    replace p203 := eq_true p203
                                    replace q203 := eq_true q203
                                    have p43 : 0 ≤ ((ji40) : Int) := of_decide_eq_true (by first | (with_reducible assumption) | assumption)
                                    have q43 : ((ji40) : Int) < ((t187.length : Int) : Int) := of_decide_eq_true (by first | (with_reducible assumption) | assumption)
                                    obtain ⟨go43, co43, eo43, gb43, gl43, cl43, HG43⟩ := Kd.R_form HO_7.out (by omega)
                                    (first | cases eo43 | (injection eo43 with ea_ en_ ec_; (first | subst ea_ | (injection ea_ with ea_; subst ea_)); subst ec_; clear en_))
                                    have GB43 := Aside0.mk gb43
                                    have GG43 := Aside0.mk HG43
                                    clear gb43 gl43 HG43
                                    (first | simp only [add_plain] at hx203_0 | skip)
                                    obtain ⟨hx43_0, hf43_0⟩ := Kd.R_celln 0 HO_7.out ((ji40) : Int) p43 q43
                                    replace p43 := eq_true p43
                                    replace q43 := eq_true q43
                                    have HP47 := Kd.R_putg HO_7.out ((ji40) : Int) (Go.bits .or .u8 (rd t187 (ji40)) 128)
                                    go_wp2_with (first | ((with_reducible refine gate_store (t := 5) (p := 93) rfl ?_); (try (rw [drewN_self wr]; generalize hq_ : World.drewN wr _ = wr; have n0_ := Aside0.mk (Kd.R_at hq_ HO_7.out); have n1_ := Aside0.mk (Kd.R_at hq_ HO_9.out); have n2_ := Aside0.mk (below_at hq_ HB.out); clear hq_ HO_7 HO_9 HB; have HO_7 := n0_; have HO_9 := n1_; have HB := n2_; clear n0_ n1_ n2_; (try (have HP47 := Kd.R_putg HO_7.out ((ji40) : Int) (Go.bits .or .u8 (rd t187 (ji40)) 128))))); refine store_event (t := 5) (p := 93) (v := ?vo_w48) (w1 := (wr.setCell ⟨go43, ((ji40) : Int).toNat, none⟩ (.int .u8 (Go.bits .or .u8 (rd t187 (ji40)) 128)))) ?hg ?ho ?hn ?hr ?_; (case ho => rfl); (case hg => rfl); (case hn => rfl); (case hr => first | (go_simp; done) | (go_simp; rfl)); intro w48 hw; have hg : wr.grownBy w48 (some go43) := (by rw [hw]; exact HP47.2); have hp_ : Kd.R (Kd.int .u8) 5 w48 w.heap.size (fun k_ => some k_ ≠ (v199 : Value).ownBlock) (.slice (some ⟨go43, 0, none⟩) t187.length co46) y204 := (by rw [hw, Ny204.out]; exact HP47.1); clear HP47; have n0_ := Aside0.mk (hp_); have n1_ := Aside0.mk (Kd.R_after (v := (.slice (some ⟨go43, 0, none⟩) t187.length co46)) (v1 := (.slice (some ⟨go43, 0, none⟩) t187.length co46)) (ok := (fun _ => True)) (by (with_reducible repeat (first | apply Kd.R_alloc | apply Kd.R_drewN | apply Kd.R_drew)); exact Kd.R_mono HO_9.out (fun _ hk => ⟨trivial, hk⟩)) hg (.inl rfl)); have n2_ := Aside0.mk ((by rw [hw]; exact below_set (HB.out) GB43.out : Below w.heap.size w w48)); clear HO_7; clear HO_9; clear HB; have HO_7 := n0_; have HO_9 := n1_; have HB := n2_; clear n0_ n1_ n2_; clear hg hw hp_) | (go_at_call 8; refine calls_of_args (args' := #[.slice (some ⟨go43, 0, none⟩) y204.length co46, .int .i64 (l0.length : Int)]) (by first | (rw [show y204.length = t187.length from (Kd.R_reads' HO_7.out).1.symm] <;> rfl) | rfl) ?_; (with_reducible refine (bits_Unpack.calls k3 _ _ y204 (l0.length : Int) t205 t206 _ ?side1 ?side2 A44.out).mono ?_); (case side1 => repeat (first | exact (Kd.R_reads' HO_7.out).2.2 | (with_reducible refine Kd.C_alloc ?_ _) | (with_reducible refine Kd.C_drewN ?_ _) | (with_reducible refine Kd.C_drew ?_))); (case side2 => rw [show y204.length = t187.length from (Kd.R_reads' HO_7.out).1.symm]; exact (Kd.R_reads' HO_7.out).2.1); rintro e w49 ⟨v207, rfl, ho0, hb⟩; have n0_ := Aside0.mk (Kd.R_below (by (with_reducible repeat (first | apply Kd.R_alloc | apply Kd.R_drewN | apply Kd.R_drew)); exact HO_7.out) hb); have n1_ := Aside0.mk (Kd.R_below (by (with_reducible repeat (first | apply Kd.R_alloc | apply Kd.R_drewN | apply Kd.R_drew)); exact HO_9.out) hb); have n2_ := Aside0.mk (Kd.R_lower ho0 (below_size (by repeat (first | (with_reducible first | exact HB.out | apply below_alloc | apply pw_below_drewN | apply below_drew1) | exact HB.out)))); have n3_ := Aside0.mk (below_step (by repeat (first | (with_reducible first | exact HB.out | apply below_alloc | apply pw_below_drewN | apply below_drew1) | exact HB.out)) hb); clear HO_7; clear HO_9; clear HB; have HO_7 := n0_; have HO_9 := n1_; have HO208 := n2_; have HB := n3_; clear n0_ n1_ n2_ n3_; (try clear hb); (try clear hb2); (try clear hk); (try clear hi); (try clear ho0)))
                                    repeat (go_quiet (first | ((with_reducible refine gate_store (t := 5) (p := 93) rfl ?_); (try (rw [drewN_self wr]; generalize hq_ : World.drewN wr _ = wr; have n0_ := Aside0.mk (Kd.R_at hq_ HO_7.out); have n1_ := Aside0.mk (Kd.R_at hq_ HO_9.out); have n2_ := Aside0.mk (below_at hq_ HB.out); clear hq_ HO_7 HO_9 HB; have HO_7 := n0_; have HO_9 := n1_; have HB := n2_; clear n0_ n1_ n2_; (try (have HP47 := Kd.R_putg HO_7.out ((ji40) : Int) (Go.bits .or .u8 (rd t187 (ji40)) 128))))); refine store_event (t := 5) (p := 93) (v := ?vo_w48) (w1 := (wr.setCell ⟨go43, ((ji40) : Int).toNat, none⟩ (.int .u8 (Go.bits .or .u8 (rd t187 (ji40)) 128)))) ?hg ?ho ?hn ?hr ?_; (case ho => rfl); (case hg => rfl); (case hn => rfl); (case hr => first | (go_simp; done) | (go_simp; rfl)); intro w48 hw; have hg : wr.grownBy w48 (some go43) := (by rw [hw]; exact HP47.2); have hp_ : Kd.R (Kd.int .u8) 5 w48 w.heap.size (fun k_ => some k_ ≠ (v199 : Value).ownBlock) (.slice (some ⟨go43, 0, none⟩) t187.length co46) y204 := (by rw [hw, Ny204.out]; exact HP47.1); clear HP47; have n0_ := Aside0.mk (hp_); have n1_ := Aside0.mk (Kd.R_after (v := (.slice (some ⟨go43, 0, none⟩) t187.length co46)) (v1 := (.slice (some ⟨go43, 0, none⟩) t187.length co46)) (ok := (fun _ => True)) (by (with_reducible repeat (first | apply Kd.R_alloc | apply Kd.R_drewN | apply Kd.R_drew)); exact Kd.R_mono HO_9.out (fun _ hk => ⟨trivial, hk⟩)) hg (.inl rfl)); have n2_ := Aside0.mk ((by rw [hw]; exact below_set (HB.out) GB43.out : Below w.heap.size w w48)); clear HO_7; clear HO_9; clear HB; have HO_7 := n0_; have HO_9 := n1_; have HB := n2_; clear n0_ n1_ n2_; clear hg hw hp_) | (go_at_call 8; refine calls_of_args (args' := #[.slice (some ⟨go43, 0, none⟩) y204.length co46, .int .i64 (l0.length : Int)]) (by first | (rw [show y204.length = t187.length from (Kd.R_reads' HO_7.out).1.symm] <;> rfl) | rfl) ?_; (with_reducible refine (bits_Unpack.calls k3 _ _ y204 (l0.length : Int) t205 t206 _ ?side1 ?side2 A44.out).mono ?_); (case side1 => repeat (first | exact (Kd.R_reads' HO_7.out).2.2 | (with_reducible refine Kd.C_alloc ?_ _) | (with_reducible refine Kd.C_drewN ?_ _) | (with_reducible refine Kd.C_drew ?_))); (case side2 => rw [show y204.length = t187.length from (Kd.R_reads' HO_7.out).1.symm]; exact (Kd.R_reads' HO_7.out).2.1); rintro e w49 ⟨v207, rfl, ho0, hb⟩; have n0_ := Aside0.mk (Kd.R_below (by (with_reducible repeat (first | apply Kd.R_alloc | apply Kd.R_drewN | apply Kd.R_drew)); exact HO_7.out) hb); have n1_ := Aside0.mk (Kd.R_below (by (with_reducible repeat (first | apply Kd.R_alloc | apply Kd.R_drewN | apply Kd.R_drew)); exact HO_9.out) hb); have n2_ := Aside0.mk (Kd.R_lower ho0 (below_size (by repeat (first | (with_reducible first | exact HB.out | apply below_alloc | apply pw_below_drewN | apply below_drew1) | exact HB.out)))); have n3_ := Aside0.mk (below_step (by repeat (first | (with_reducible first | exact HB.out | apply below_alloc | apply pw_below_drewN | apply below_drew1) | exact HB.out)) hb); clear HO_7; clear HO_9; clear HB; have HO_7 := n0_; have HO_9 := n1_; have HO208 := n2_; have HB := n3_; clear n0_ n1_ n2_ n3_; (try clear hb); (try clear hb2); (try clear hk); (try clear hi); (try clear ho0))); try go_wp2_with (first | ((with_reducible refine gate_store (t := 5) (p := 93) rfl ?_); (try (rw [drewN_self wr]; generalize hq_ : World.drewN wr _ = wr; have n0_ := Aside0.mk (Kd.R_at hq_ HO_7.out); have n1_ := Aside0.mk (Kd.R_at hq_ HO_9.out); have n2_ := Aside0.mk (below_at hq_ HB.out); clear hq_ HO_7 HO_9 HB; have HO_7 := n0_; have HO_9 := n1_; have HB := n2_; clear n0_ n1_ n2_; (try (have HP47 := Kd.R_putg HO_7.out ((ji40) : Int) (Go.bits .or .u8 (rd t187 (ji40)) 128))))); refine store_event (t := 5) (p := 93) (v := ?vo_w48) (w1 := (wr.setCell ⟨go43, ((ji40) : Int).toNat, none⟩ (.int .u8 (Go.bits .or .u8 (rd t187 (ji40)) 128)))) ?hg ?ho ?hn ?hr ?_; (case ho => rfl); (case hg => rfl); (case hn => rfl); (case hr => first | (go_simp; done) | (go_simp; rfl)); intro w48 hw; have hg : wr.grownBy w48 (some go43) := (by rw [hw]; exact HP47.2); have hp_ : Kd.R (Kd.int .u8) 5 w48 w.heap.size (fun k_ => some k_ ≠ (v199 : Value).ownBlock) (.slice (some ⟨go43, 0, none⟩) t187.length co46) y204 := (by rw [hw, Ny204.out]; exact HP47.1); clear HP47; have n0_ := Aside0.mk (hp_); have n1_ := Aside0.mk (Kd.R_after (v := (.slice (some ⟨go43, 0, none⟩) t187.length co46)) (v1 := (.slice (some ⟨go43, 0, none⟩) t187.length co46)) (ok := (fun _ => True)) (by (with_reducible repeat (first | apply Kd.R_alloc | apply Kd.R_drewN | apply Kd.R_drew)); exact Kd.R_mono HO_9.out (fun _ hk => ⟨trivial, hk⟩)) hg (.inl rfl)); have n2_ := Aside0.mk ((by rw [hw]; exact below_set (HB.out) GB43.out : Below w.heap.size w w48)); clear HO_7; clear HO_9; clear HB; have HO_7 := n0_; have HO_9 := n1_; have HB := n2_; clear n0_ n1_ n2_; clear hg hw hp_) | (go_at_call 8; refine calls_of_args (args' := #[.slice (some ⟨go43, 0, none⟩) y204.length co46, .int .i64 (l0.length : Int)]) (by first | (rw [show y204.length = t187.length from (Kd.R_reads' HO_7.out).1.symm] <;> rfl) | rfl) ?_; (with_reducible refine (bits_Unpack.calls k3 _ _ y204 (l0.length : Int) t205 t206 _ ?side1 ?side2 A44.out).mono ?_); (case side1 => repeat (first | exact (Kd.R_reads' HO_7.out).2.2 | (with_reducible refine Kd.C_alloc ?_ _) | (with_reducible refine Kd.C_drewN ?_ _) | (with_reducible refine Kd.C_drew ?_))); (case side2 => rw [show y204.length = t187.length from (Kd.R_reads' HO_7.out).1.symm]; exact (Kd.R_reads' HO_7.out).2.1); rintro e w49 ⟨v207, rfl, ho0, hb⟩; have n0_ := Aside0.mk (Kd.R_below (by (with_reducible repeat (first | apply Kd.R_alloc | apply Kd.R_drewN | apply Kd.R_drew)); exact HO_7.out) hb); have n1_ := Aside0.mk (Kd.R_below (by (with_reducible repeat (first | apply Kd.R_alloc | apply Kd.R_drewN | apply Kd.R_drew)); exact HO_9.out) hb); have n2_ := Aside0.mk (Kd.R_lower ho0 (below_size (by repeat (first | (with_reducible first | exact HB.out | apply below_alloc | apply pw_below_drewN | apply below_drew1) | exact HB.out)))); have n3_ := Aside0.mk (below_step (by repeat (first | (with_reducible first | exact HB.out | apply below_alloc | apply pw_below_drewN | apply below_drew1) | exact HB.out)) hb); clear HO_7; clear HO_9; clear HB; have HO_7 := n0_; have HO_9 := n1_; have HO208 := n2_; have HB := n3_; clear n0_ n1_ n2_ n3_; (try clear hb); (try clear hb2); (try clear hk); (try clear hi); (try clear ho0))))
                                    go_ret
                                    exact ⟨by first | rfl | (simp [errW_none, errW_some] <;> rfl) | (simp only [← hji11, ← hji40]; first | rfl | (simp [errW_none, errW_some] <;> rfl)) | (simp [*, errW_none, errW_some] <;> rfl), by repeat (first | (with_reducible first | exact HB.out | apply below_alloc | apply pw_below_drewN | apply below_drew1) | exact HB.out)⟩
                                  · replace c45 := Bool.eq_false_iff.mpr c45
                                    subst c45
                                    have H1 : (some false) = some r := by rw [if_neg (show ¬ (false = true) by decide)] at H; exact H
                                    clear H
                                    have H := H1
                                    clear H1
                                    obtain rfl := Option.some.inj H
                                    obtain ⟨Ao50, co50, eo50⟩ := Kd.R_slice HO_7.out
                                    subst eo50
                                    have p203 : 0 ≤ ((ji40) : Int) := of_decide_eq_true (by first | (with_reducible assumption) | assumption)
                                    have q203 : (ji40) < (t187.length : Int) := of_decide_eq_true (by first | (with_reducible assumption) | assumption)
                                    obtain ⟨ad203, e203, hx203_0⟩ := Kd.at_int (Kd.R_reads' HO_7.out).2.2 (ji40) p203 q203
                                    cases e203
                                    replace p203 := eq_true p203
                                    replace q203 := eq_true q203
                                    have p43 : 0 ≤ ((ji40) : Int) := of_decide_eq_true (by first | (with_reducible assumption) | assumption)
                                    have q43 : ((ji40) : Int) < ((t187.length : Int) : Int) := of_decide_eq_true (by first | (with_reducible assumption) | assumption)
                                    obtain ⟨go43, co43, eo43, gb43, gl43, cl43, HG43⟩ := Kd.R_form HO_7.out (by omega)
                                    (first | cases eo43 | (injection eo43 with ea_ en_ ec_; (first | subst ea_ | (injection ea_ with ea_; subst ea_)); subst ec_; clear en_))
                                    have GB43 := Aside0.mk gb43
                                    have GG43 := Aside0.mk HG43
                                    clear gb43 gl43 HG43
                                    (first | simp only [add_plain] at hx203_0 | skip)
                                    obtain ⟨hx43_0, hf43_0⟩ := Kd.R_celln 0 HO_7.out ((ji40) : Int) p43 q43
                                    replace p43 := eq_true p43
                                    replace q43 := eq_true q43
                                    have HP51 := Kd.R_putg HO_7.out ((ji40) : Int) (Go.bits .or .u8 (rd t187 (ji40)) 128)
                                    go_wp2_with (first | ((with_reducible refine gate_store (t := 5) (p := 93) rfl ?_); (try (rw [drewN_self wr]; generalize hq_ : World.drewN wr _ = wr; have n0_ := Aside0.mk (Kd.R_at hq_ HO_7.out); have n1_ := Aside0.mk (Kd.R_at hq_ HO_9.out); have n2_ := Aside0.mk (below_at hq_ HB.out); clear hq_ HO_7 HO_9 HB; have HO_7 := n0_; have HO_9 := n1_; have HB := n2_; clear n0_ n1_ n2_; (try (have HP51 := Kd.R_putg HO_7.out ((ji40) : Int) (Go.bits .or .u8 (rd t187 (ji40)) 128))))); refine store_event (t := 5) (p := 93) (v := ?vo_w52) (w1 := (wr.setCell ⟨go43, ((ji40) : Int).toNat, none⟩ (.int .u8 (Go.bits .or .u8 (rd t187 (ji40)) 128)))) ?hg ?ho ?hn ?hr ?_; (case ho => rfl); (case hg => rfl); (case hn => rfl); (case hr => first | (go_simp; done) | (go_simp; rfl)); intro w52 hw; have hg : wr.grownBy w52 (some go43) := (by rw [hw]; exact HP51.2); have hp_ : Kd.R (Kd.int .u8) 5 w52 w.heap.size (fun k_ => some k_ ≠ (v199 : Value).ownBlock) (.slice (some ⟨go43, 0, none⟩) t187.length co50) y204 := (by rw [hw, Ny204.out]; exact HP51.1); clear HP51; have n0_ := Aside0.mk (hp_); have n1_ := Aside0.mk (Kd.R_after (v := (.slice (some ⟨go43, 0, none⟩) t187.length co50)) (v1 := (.slice (some ⟨go43, 0, none⟩) t187.length co50)) (ok := (fun _ => True)) (by (with_reducible repeat (first | apply Kd.R_alloc | apply Kd.R_drewN | apply Kd.R_drew)); exact Kd.R_mono HO_9.out (fun _ hk => ⟨trivial, hk⟩)) hg (.inl rfl)); have n2_ := Aside0.mk ((by rw [hw]; exact below_set (HB.out) GB43.out : Below w.heap.size w w52)); clear HO_7; clear HO_9; clear HB; have HO_7 := n0_; have HO_9 := n1_; have HB := n2_; clear n0_ n1_ n2_; clear hg hw hp_) | (go_at_call 8; refine calls_of_args (args' := #[.slice (some ⟨go43, 0, none⟩) y204.length co50, .int .i64 (l0.length : Int)]) (by first | (rw [show y204.length = t187.length from (Kd.R_reads' HO_7.out).1.symm] <;> rfl) | rfl) ?_; (with_reducible refine (bits_Unpack.calls k3 _ _ y204 (l0.length : Int) t205 t206 _ ?side1 ?side2 A44.out).mono ?_); (case side1 => repeat (first | exact (Kd.R_reads' HO_7.out).2.2 | (with_reducible refine Kd.C_alloc ?_ _) | (with_reducible refine Kd.C_drewN ?_ _) | (with_reducible refine Kd.C_drew ?_))); (case side2 => rw [show y204.length = t187.length from (Kd.R_reads' HO_7.out).1.symm]; exact (Kd.R_reads' HO_7.out).2.1); rintro e w53 ⟨v207, rfl, ho0, hb⟩; have n0_ := Aside0.mk (Kd.R_below (by (with_reducible repeat (first | apply Kd.R_alloc | apply Kd.R_drewN | apply Kd.R_drew)); exact HO_7.out) hb); have n1_ := Aside0.mk (Kd.R_below (by (with_reducible repeat (first | apply Kd.R_alloc | apply Kd.R_drewN | apply Kd.R_drew)); exact HO_9.out) hb); have n2_ := Aside0.mk (Kd.R_lower ho0 (below_size (by repeat (first | (with_reducible first | exact HB.out | apply below_alloc | apply pw_below_drewN | apply below_drew1) | exact HB.out)))); have n3_ := Aside0.mk (below_step (by repeat (first | (with_reducible first | exact HB.out | apply below_alloc | apply pw_below_drewN | apply below_drew1) | exact HB.out)) hb); clear HO_7; clear HO_9; clear HB; have HO_7 := n0_; have HO_9 := n1_; have HO208 := n2_; have HB := n3_; clear n0_ n1_ n2_ n3_; (try clear hb); (try clear hb2); (try clear hk); (try clear hi); (try clear ho0)))
                                    repeat (go_quiet (first | ((with_reducible refine gate_store (t := 5) (p := 93) rfl ?_); (try (rw [drewN_self wr]; generalize hq_ : World.drewN wr _ = wr; have n0_ := Aside0.mk (Kd.R_at hq_ HO_7.out); have n1_ := Aside0.mk (Kd.R_at hq_ HO_9.out); have n2_ := Aside0.mk (below_at hq_ HB.out); clear hq_ HO_7 HO_9 HB; have HO_7 := n0_; have HO_9 := n1_; have HB := n2_; clear n0_ n1_ n2_; (try (have HP51 := Kd.R_putg HO_7.out ((ji40) : Int) (Go.bits .or .u8 (rd t187 (ji40)) 128))))); refine store_event (t := 5) (p := 93) (v := ?vo_w52) (w1 := (wr.setCell ⟨go43, ((ji40) : Int).toNat, none⟩ (.int .u8 (Go.bits .or .u8 (rd t187 (ji40)) 128)))) ?hg ?ho ?hn ?hr ?_; (case ho => rfl); (case hg => rfl); (case hn => rfl); (case hr => first | (go_simp; done) | (go_simp; rfl)); intro w52 hw; have hg : wr.grownBy w52 (some go43) := (by rw [hw]; exact HP51.2); have hp_ : Kd.R (Kd.int .u8) 5 w52 w.heap.size (fun k_ => some k_ ≠ (v199 : Value).ownBlock) (.slice (some ⟨go43, 0, none⟩) t187.length co50) y204 := (by rw [hw, Ny204.out]; exact HP51.1); clear HP51; have n0_ := Aside0.mk (hp_); have n1_ := Aside0.mk (Kd.R_after (v := (.slice (some ⟨go43, 0, none⟩) t187.length co50)) (v1 := (.slice (some ⟨go43, 0, none⟩) t187.length co50)) (ok := (fun _ => True)) (by (with_reducible repeat (first | apply Kd.R_alloc | apply Kd.R_drewN | apply Kd.R_drew)); exact Kd.R_mono HO_9.out (fun _ hk => ⟨trivial, hk⟩)) hg (.inl rfl)); have n2_ := Aside0.mk ((by rw [hw]; exact below_set (HB.out) GB43.out : Below w.heap.size w w52)); clear HO_7; clear HO_9; clear HB; have HO_7 := n0_; have HO_9 := n1_; have HB := n2_; clear n0_ n1_ n2_; clear hg hw hp_) | (go_at_call 8; refine calls_of_args (args' := #[.slice (some ⟨go43, 0, none⟩) y204.length co50, .int .i64 (l0.length : Int)]) (by first | (rw [show y204.length = t187.length from (Kd.R_reads' HO_7.out).1.symm] <;> rfl) | rfl) ?_; (with_reducible refine (bits_Unpack.calls k3 _ _ y204 (l0.length : Int) t205 t206 _ ?side1 ?side2 A44.out).mono ?_); (case side1 => repeat (first | exact (Kd.R_reads' HO_7.out).2.2 | (with_reducible refine Kd.C_alloc ?_ _) | (with_reducible refine Kd.C_drewN ?_ _) | (with_reducible refine Kd.C_drew ?_))); (case side2 => rw [show y204.length = t187.length from (Kd.R_reads' HO_7.out).1.symm]; exact (Kd.R_reads' HO_7.out).2.1); rintro e w53 ⟨v207, rfl, ho0, hb⟩; have n0_ := Aside0.mk (Kd.R_below (by (with_reducible repeat (first | apply Kd.R_alloc | apply Kd.R_drewN | apply Kd.R_drew)); exact HO_7.out) hb); have n1_ := Aside0.mk (Kd.R_below (by (with_reducible repeat (first | apply Kd.R_alloc | apply Kd.R_drewN | apply Kd.R_drew)); exact HO_9.out) hb); have n2_ := Aside0.mk (Kd.R_lower ho0 (below_size (by repeat (first | (with_reducible first | exact HB.out | apply below_alloc | apply pw_below_drewN | apply below_drew1) | exact HB.out)))); have n3_ := Aside0.mk (below_step (by repeat (first | (with_reducible first | exact HB.out | apply below_alloc | apply pw_below_drewN | apply below_drew1) | exact HB.out)) hb); clear HO_7; clear HO_9; clear HB; have HO_7 := n0_; have HO_9 := n1_; have HO208 := n2_; have HB := n3_; clear n0_ n1_ n2_ n3_; (try clear hb); (try clear hb2); (try clear hk); (try clear hi); (try clear ho0))); try go_wp2_with (first | ((with_reducible refine gate_store (t := 5) (p := 93) rfl ?_); (try (rw [drewN_self wr]; generalize hq_ : World.drewN wr _ = wr; have n0_ := Aside0.mk (Kd.R_at hq_ HO_7.out); have n1_ := Aside0.mk (Kd.R_at hq_ HO_9.out); have n2_ := Aside0.mk (below_at hq_ HB.out); clear hq_ HO_7 HO_9 HB; have HO_7 := n0_; have HO_9 := n1_; have HB := n2_; clear n0_ n1_ n2_; (try (have HP51 := Kd.R_putg HO_7.out ((ji40) : Int) (Go.bits .or .u8 (rd t187 (ji40)) 128))))); refine store_event (t := 5) (p := 93) (v := ?vo_w52) (w1 := (wr.setCell ⟨go43, ((ji40) : Int).toNat, none⟩ (.int .u8 (Go.bits .or .u8 (rd t187 (ji40)) 128)))) ?hg ?ho ?hn ?hr ?_; (case ho => rfl); (case hg => rfl); (case hn => rfl); (case hr => first | (go_simp; done) | (go_simp; rfl)); intro w52 hw; have hg : wr.grownBy w52 (some go43) := (by rw [hw]; exact HP51.2); have hp_ : Kd.R (Kd.int .u8) 5 w52 w.heap.size (fun k_ => some k_ ≠ (v199 : Value).ownBlock) (.slice (some ⟨go43, 0, none⟩) t187.length co50) y204 := (by rw [hw, Ny204.out]; exact HP51.1); clear HP51; have n0_ := Aside0.mk (hp_); have n1_ := Aside0.mk (Kd.R_after (v := (.slice (some ⟨go43, 0, none⟩) t187.length co50)) (v1 := (.slice (some ⟨go43, 0, none⟩) t187.length co50)) (ok := (fun _ => True)) (by (with_reducible repeat (first | apply Kd.R_alloc | apply Kd.R_drewN | apply Kd.R_drew)); exact Kd.R_mono HO_9.out (fun _ hk => ⟨trivial, hk⟩)) hg (.inl rfl)); have n2_ := Aside0.mk ((by rw [hw]; exact below_set (HB.out) GB43.out : Below w.heap.size w w52)); clear HO_7; clear HO_9; clear HB; have HO_7 := n0_; have HO_9 := n1_; have HB := n2_; clear n0_ n1_ n2_; clear hg hw hp_) | (go_at_call 8; refine calls_of_args (args' := #[.slice (some ⟨go43, 0, none⟩) y204.length co50, .int .i64 (l0.length : Int)]) (by first | (rw [show y204.length = t187.length from (Kd.R_reads' HO_7.out).1.symm] <;> rfl) | rfl) ?_; (with_reducible refine (bits_Unpack.calls k3 _ _ y204 (l0.length : Int) t205 t206 _ ?side1 ?side2 A44.out).mono ?_); (case side1 => repeat (first | exact (Kd.R_reads' HO_7.out).2.2 | (with_reducible refine Kd.C_alloc ?_ _) | (with_reducible refine Kd.C_drewN ?_ _) | (with_reducible refine Kd.C_drew ?_))); (case side2 => rw [show y204.length = t187.length from (Kd.R_reads' HO_7.out).1.symm]; exact (Kd.R_reads' HO_7.out).2.1); rintro e w53 ⟨v207, rfl, ho0, hb⟩; have n0_ := Aside0.mk (Kd.R_below (by (with_reducible repeat (first | apply Kd.R_alloc | apply Kd.R_drewN | apply Kd.R_drew)); exact HO_7.out) hb); have n1_ := Aside0.mk (Kd.R_below (by (with_reducible repeat (first | apply Kd.R_alloc | apply Kd.R_drewN | apply Kd.R_drew)); exact HO_9.out) hb); have n2_ := Aside0.mk (Kd.R_lower ho0 (below_size (by repeat (first | (with_reducible first | exact HB.out | apply below_alloc | apply pw_below_drewN | apply below_drew1) | exact HB.out)))); have n3_ := Aside0.mk (below_step (by repeat (first | (with_reducible first | exact HB.out | apply below_alloc | apply pw_below_drewN | apply below_drew1) | exact HB.out)) hb); clear HO_7; clear HO_9; clear HB; have HO_7 := n0_; have HO_9 := n1_; have HO208 := n2_; have HB := n3_; clear n0_ n1_ n2_ n3_; (try clear hb); (try clear hb2); (try clear hk); (try clear hi); (try clear ho0))))
                                    go_ret
                                    exact ⟨by first | rfl | (simp [errW_none, errW_some] <;> rfl) | (simp only [← hji11, ← hji40]; first | rfl | (simp [errW_none, errW_some] <;> rfl)) | (simp [*, errW_none, errW_some] <;> rfl), by repeat (first | (with_reducible first | exact HB.out | apply below_alloc | apply pw_below_drewN | apply below_drew1) | exact HB.out)⟩
                                · rw [if_neg c42] at H
                                  exact absurd H (by simp)
                              · rw [if_neg c41] at H
                                exact absurd H (by simp)
              · rw [if_neg c13] at H
                exact absurd H (by simp)
            · rw [if_neg c12] at H
              exact absurd H (by simp)
          · rw [if_neg c10] at H
            exact absurd H (by simp)

end Go.Proofs.Ytpjapdkefjbimaa.P
