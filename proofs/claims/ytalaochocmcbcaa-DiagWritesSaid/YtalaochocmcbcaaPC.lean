/- What the laws of this chapter rest on, part 3: what the functions that they reach answer, each shown once. Conditions: what each theorem states. (Merged by a program of this session, wip/tools/merge.py, out of its own texts and of the words that the kit's print wrote for this seat, cut to those that are used.) -/
import Derived.Maps.OwnOps
import Derived.Maps.Views
import Derived.Test.YtalaochocmcbcaaPB
set_option linter.unusedVariables false
set_option linter.unusedSimpArgs false
set_option maxHeartbeats 16000000
set_option maxRecDepth 100000
section
namespace Go.Proofs.Ytalaochocmcbcaa.P
open Go.RowKit Go.Proofs.YtalaochocmcbcaaW.PrintWords Go.Proofs.YtalaochocmcbcaaW.PrintLast Go.Proofs.YtalaochocmcbcaaW.PrintMore
attribute [local go_sem] max2_int min2_int max_two min_two max_three min_three max_four min_four   -- for this text's walks alone
def word_Take.l0 : Nat → List Int → List Int → Int → Option (List Int)
  | 0, _, _, _ => none
  | k + 1, x0, x3, x4 => if x4 < (x0.length : Int) then (if 0 ≤ x4 then (if 0 ≤ (wrap64 (x4 + 1)) then (if (wrap64 (x4 + 1)) < (x0.length : Int) then (if x3.length < 70368744177664 then (word_Take.l0 k x0 (x3 ++ [Go.bits .or .u16 (IntKind.u16.wrap ((IntKind.u16.wrap (rd x0 x4)) * 256)) (IntKind.u16.wrap (rd x0 (wrap64 (x4 + 1))))]) (wrap64 (x4 + 2))) else (none)) else (none)) else (none)) else (none)) else (some x3)
def word_Take.f (k : Nat) (l0 : List Int) : Option (List Int) := if ((l0.length : Int) % 2) = 0 then (word_Take.l0 k l0 ([] : List Int) 0) else (some ([] : List Int))
def word_Take.T7 : Bool × List (List Nat × List Nat) := (true, [([], []), ([], []), ([], []), ([1, 2], [1, 2]), ([3], [3]), ([4], [4]), ([5], [5]), ([], []), ([], []), ([8], [8]), ([7, 9], [7, 9]), ([10], [10]), ([11], [11]), ([6, 12], [6, 12]), ([13], [13]), ([0, 14], [0, 14]), ([15, 15, 0, 1, 2, 3, 4, 5, 6, 7, 8, 9, 10, 11, 12, 13, 14, 15], [0, 15])])
def word_Take.B7 : List Nat := [0, 0, 0, 6, 14, 30, 62, 0, 0, 256, 896, 1920, 3968, 8190, 16382, 32767, 65535]
theorem word_Take.tab7 : rtab .any (opsOf Try.f63 7) = word_Take.T7 := by kernel_rfl
theorem word_Take.bits7 : waitsOk word_Take.T7.2 word_Take.B7 = true := by kernel_rfl
theorem word_Take.calls (k : Nat) (A0 : Option Addr) (c0 : Nat) (l0 : List Int) (r : List Int) (w : World) (hr0 : Kd.C (Kd.int .u8) w A0 l0.length l0) (hc0 : l0.length ≤ c0) (h : word_Take.f k l0 = some r) :
    Calls Try.prog 63 #[.slice A0 l0.length c0] w fun e w' => ∃ v0_ : Value, e = .returned (v0_) ∧ Kd.R (Kd.int .u16) 24 w' w.heap.size (fun _ => True) v0_ r ∧ Below w.heap.size w w' := by
  have HR0 := Aside0.mk hr0
  have HC0 := Aside0.mk hc0
  clear hr0 hc0
  have HB := Aside0.mk (Below.refl w.heap.size w)
  have H : (if ((l0.length : Int) % 2) = 0 then (word_Take.l0 k l0 ([] : List Int) 0) else (some ([] : List Int))) = some r := h
  clear h
  by_cases c2 : ((l0.length : Int) % 2) = 0
  · rw [if_pos c2] at H
    have c2b0 : (((l0.length : Int) % 2) == 0) = true := beq_iff_eq.mpr c2
    have c2b1 : (((l0.length : Int) % 2) != 0) = false := bne_eq_false_iff_eq.mpr c2
    clear c2
    have H' := Aside0.mk H
    clear H
    go_enter Try.func63, Try.ntmps63
    go_wp2
    go_loopg [3, 4] k (fun kq v3 v4 w' => ∃ (x3_1 : List Int) (x4_1 : Int), v4 = .int .i64 x4_1 ∧ Aside0 (word_Take.l0 kq l0 x3_1 x4_1 = some r) ∧ Aside0 (kq ≤ k) ∧ Aside0 (Kd.R (Kd.int .u16) 24 w' w.heap.size (fun _ => True) v3 x3_1) ∧ Aside0 (Below w.heap.size w w'))
    case atStart => exact ⟨(([] : List Int)), (0), (by first | rfl | (simp; done) | (simp [*]; done)), H', ⟨Nat.le_refl _⟩, ⟨by first | exact Kd.R_nil _ _ _ _ _ | exact Kd.N_nil _ _ _ _ _ | exact Kd.V_nil _ _ _ _ _ | exact Kd.Q_nil _ _ _ _ _ | exact Kd.S_nil _ _ _ _ _⟩, ⟨by repeat (first | (with_reducible first | exact HB.out | apply below_alloc | apply pw_below_drewN | apply below_drew1) | exact HB.out)⟩⟩
    case round =>
      clear H'
      try clear c2
      try clear c2b0
      try clear c2b1
      try clear p2
      obtain ⟨x3_1, x4_1, rfl, HA, HK1, HO_3, HB⟩ := hrel
      cases gk with
      | zero => exact absurd HA.out (by simp [word_Take.l0])
      | succ k1 =>
        have H := HA.out
        clear HA
        simp only [word_Take.l0] at H
        by_cases c3 : x4_1 < (l0.length : Int)
        · rw [if_pos c3] at H
          have c3b0 : decide (x4_1 < (l0.length : Int)) = true := decide_eq_true c3
          clear c3
          by_cases c4 : 0 ≤ x4_1
          · rw [if_pos c4] at H
            have c4b0 : decide (0 ≤ x4_1) = true := decide_eq_true c4
            clear c4
            obtain ⟨ji5, hji5⟩ : ∃ j_ : Int, (wrap64 (x4_1 + 1)) = j_ := ⟨_, rfl⟩
            replace H : (if 0 ≤ (ji5) then (if (ji5) < (l0.length : Int) then (if x3_1.length < 70368744177664 then (word_Take.l0 k1 l0 (x3_1 ++ [Go.bits .or .u16 (IntKind.u16.wrap ((IntKind.u16.wrap (rd l0 x4_1)) * 256)) (IntKind.u16.wrap (rd l0 (ji5)))]) (wrap64 (x4_1 + 2))) else (none)) else (none)) else (none)) = some r := by first | (rw [hji5] at H; exact H) | (simp only [hji5] at H ⊢; exact H)
            have hji5w : (IntKind.i64.wrap (x4_1 + 1)) = ji5 := (i64_w _).trans hji5
            by_cases c6 : 0 ≤ (ji5)
            · rw [if_pos c6] at H
              have c6b0 : decide (0 ≤ (ji5)) = true := decide_eq_true c6
              clear c6
              by_cases c7 : (ji5) < (l0.length : Int)
              · rw [if_pos c7] at H
                have c7b0 : decide ((ji5) < (l0.length : Int)) = true := decide_eq_true c7
                clear c7
                by_cases c8 : x3_1.length < 70368744177664
                · rw [if_pos c8] at H
                  have LMc8 := Aside0.mk c8
                  clear c8
                  obtain ⟨y103, hy103⟩ : ∃ y_ : List Int, y_ = (x3_1 ++ [Go.bits .or .u16 (IntKind.u16.wrap ((IntKind.u16.wrap (rd l0 x4_1)) * 256)) (IntKind.u16.wrap (rd l0 (ji5)))]) := ⟨_, rfl⟩
                  replace H : (word_Take.l0 k1 l0 y103 (wrap64 (x4_1 + 2))) = some r := by first | (rw [hy103]; with_reducible exact H) | (have H2_ := (Option.bind_some _ _).symm.trans H; rw [hy103]; with_reducible exact H2_) | (have H2_ := (Option.bind_some _ _).symm.trans H; with_reducible exact H2_) | with_reducible exact H | (rw [hy103]; exact H) | exact H
                  have Ny103 := Aside0.mk hy103
                  clear hy103
                  have H' := Aside0.mk H
                  clear H
                  try go_wp2
                  have n0_ := Aside0.mk (Kd.R_drew HO_3.out)
                  have n1_ := Aside0.mk (below_drew1 HB.out)
                  clear HO_3
                  clear HB
                  have HO_3 := n0_
                  have HB := n1_
                  clear n0_ n1_
                  have p101 : 0 ≤ (x4_1 : Int) := of_decide_eq_true (by first | (with_reducible assumption) | assumption)
                  have q101 : x4_1 < (l0.length : Int) := of_decide_eq_true (by first | (with_reducible assumption) | assumption)
                  obtain ⟨ad101, e101, hx101_0⟩ := Kd.at_int HR0.out x4_1 p101 q101
                  have hw101_0 := hx101_0
                  cases e101
                  replace hx101_0 := (HB.out.cell (World.block_lt_of_cell? w _ hx101_0)).trans hx101_0
                  replace p101 := eq_true p101
                  replace q101 := eq_true q101
                  have p102 : 0 ≤ ((ji5) : Int) := of_decide_eq_true (by first | (with_reducible assumption) | assumption)
                  have q102 : (ji5) < (l0.length : Int) := of_decide_eq_true (by first | (with_reducible assumption) | assumption)
                  obtain ⟨ad102, e102, hx102_0⟩ := Kd.at_int HR0.out (ji5) p102 q102
                  have hw102_0 := hx102_0
                  obtain rfl : ad101 = ad102 := (by injection e102)
                  replace hx102_0 := (HB.out.cell (World.block_lt_of_cell? w _ hx102_0)).trans hx102_0
                  replace p102 := eq_true p102
                  replace q102 := eq_true q102
                  refine start_ (n := 17) (S := fun w' => w'.cell? (ad101.add (x4_1).toNat) = some (.int .u8 (rd l0 x4_1)) ∧ w'.cell? (ad101.add ((ji5)).toNat) = some (.int .u8 (rd l0 (ji5)))) (ds := []) #[false, false, false, false, false, false, false, false, false, false, false, false, false, false, false, false, false] (by kernel_rfl) rfl rfl ⟨((HB.out.cell (World.block_lt_of_cell? w _ hw101_0)).trans hw101_0), ((HB.out.cell (World.block_lt_of_cell? w _ hw102_0)).trans hw102_0)⟩ (fun hHeld => ?_); refine with_tabW word_Take.tab7 word_Take.bits7 (fun HT_ HW_ => ?_)
                  generalize wr.drew = w9 at HO_3 HB hx101_0 hx102_0 hHeld ⊢
                  refine pure_ (i := 0) (N := some 15) (v := ?_) (a' := ?_) #[true, false, false, false, false, false, false, false, false, false, false, false, false, false, false, false, false] rfl rfl (any_of HT_.out (by kernel_rfl)) (fun _ _ _ h => h) (Or.inl ⟨by rfl, ?_⟩) ?_ ?_
                  rotate_left
                  · intro w'
                    go_simp
                    with_reducible rfl
                  rotate_left
                  · simp only [Act.put, List.setIfInBounds_toArray, List.set_cons_zero, List.set_cons_succ, i64_w, i32_w]
                    rfl
                  refine pure_ (i := 1) (N := some 16) (v := ?_) (a' := ?_) #[true, true, false, false, false, false, false, false, false, false, false, false, false, false, false, false, false] rfl rfl (any_of HT_.out (by kernel_rfl)) (fun _ _ _ h => h) (Or.inl ⟨by rfl, ?_⟩) ?_ ?_
                  rotate_left
                  · intro w'
                    go_simp
                    with_reducible rfl
                  rotate_left
                  · simp only [Act.put, List.setIfInBounds_toArray, List.set_cons_zero, List.set_cons_succ, i64_w, i32_w]
                    rfl
                  refine pure_ (i := 2) (N := some 17) (v := ?_) (a' := ?_) #[true, true, true, false, false, false, false, false, false, false, false, false, false, false, false, false, false] rfl rfl (any_of HT_.out (by kernel_rfl)) (fun _ _ _ h => h) (Or.inl ⟨by rfl, ?_⟩) ?_ ?_
                  rotate_left
                  · intro w'
                    go_simp
                    with_reducible rfl
                  rotate_left
                  · simp only [Act.put, List.setIfInBounds_toArray, List.set_cons_zero, List.set_cons_succ, i64_w, i32_w]
                    rfl
                  refine pure_ (i := 3) (N := some 18) (v := ?_) (a' := ?_) #[true, true, true, true, false, false, false, false, false, false, false, false, false, false, false, false, false] rfl rfl (any_of HT_.out (by kernel_rfl)) (fun _ _ _ h => h) (Or.inl ⟨by rfl, ?_⟩) ?_ ?_
                  rotate_left
                  · intro w'
                    go_simp
                    with_reducible rfl
                  rotate_left
                  · simp only [Act.put, List.setIfInBounds_toArray, List.set_cons_zero, List.set_cons_succ, i64_w, i32_w]
                    rfl
                  refine pure_ (i := 7) (N := some 22) (v := ?_) (a' := ?_) #[true, true, true, true, false, false, false, true, false, false, false, false, false, false, false, false, false] rfl rfl (any_of HT_.out (by kernel_rfl)) (fun _ _ _ h => h) (Or.inl ⟨by rfl, ?_⟩) ?_ ?_
                  rotate_left
                  · intro w'
                    go_simp
                    with_reducible rfl
                  rotate_left
                  · simp only [Act.put, List.setIfInBounds_toArray, List.set_cons_zero, List.set_cons_succ, i64_w, i32_w]
                    rfl
                  refine pure_ (i := 8) (N := some 23) (v := ?_) (a' := ?_) #[true, true, true, true, false, false, false, true, true, false, false, false, false, false, false, false, false] rfl rfl (any_of HT_.out (by kernel_rfl)) (fun _ _ _ h => h) (Or.inl ⟨by rfl, ?_⟩) ?_ ?_
                  rotate_left
                  · intro w'
                    go_simp
                    with_reducible rfl
                  rotate_left
                  · simp only [Act.put, List.setIfInBounds_toArray, List.set_cons_zero, List.set_cons_succ, i64_w, i32_w]
                    rfl
                  refine pure_ (i := 9) (N := some 24) (v := ?_) (a' := ?_) #[true, true, true, true, false, false, false, true, true, true, false, false, false, false, false, false, false] rfl rfl (any_of HT_.out (by kernel_rfl)) (fun _ _ _ h => h) (Or.inl ⟨by rfl, ?_⟩) ?_ ?_
                  rotate_left
                  · intro w'
                    go_simp
                    with_reducible rfl
                  rotate_left
                  · simp only [Act.put, List.setIfInBounds_toArray, List.set_cons_zero, List.set_cons_succ, i64_w, i32_w]
                    rfl
                  refine pure_ (i := 10) (N := some 25) (v := ?_) (a' := ?_) #[true, true, true, true, false, false, false, true, true, true, true, false, false, false, false, false, false] rfl rfl (any_of HT_.out (by kernel_rfl)) (fun _ _ _ h => h) (Or.inl ⟨by rfl, ?_⟩) ?_ ?_
                  rotate_left
                  · intro w'
                    go_simp
                    with_reducible rfl
                  rotate_left
                  · simp only [Act.put, List.setIfInBounds_toArray, List.set_cons_zero, List.set_cons_succ, i64_w, i32_w]
                    rfl
                  refine take_ (i := 4) (N := some 19) (v := ?_) (a' := ?_) #[true, true, true, true, true, false, false, true, true, true, true, false, false, false, false, false, false] rfl rfl (take_ofW HT_.out HW_.out (by kernel_rfl)) (fun _ _ _ h => h) (Or.inl ⟨by rfl, ?_⟩) hHeld ?_ ?_
                  rotate_left
                  · rintro w' ⟨s0, s1⟩
                    go_simp
                    with_reducible rfl
                  rotate_left
                  · simp only [Act.put, List.setIfInBounds_toArray, List.set_cons_zero, List.set_cons_succ, i64_w, i32_w]
                    rfl
                  refine pure_ (i := 5) (N := some 20) (v := ?_) (a' := ?_) #[true, true, true, true, true, true, false, true, true, true, true, false, false, false, false, false, false] rfl rfl (any_of HT_.out (by kernel_rfl)) (fun _ _ _ h => h) (Or.inl ⟨by rfl, ?_⟩) ?_ ?_
                  rotate_left
                  · intro w'
                    go_simp
                    with_reducible rfl
                  rotate_left
                  · simp only [Act.put, List.setIfInBounds_toArray, List.set_cons_zero, List.set_cons_succ, i64_w, i32_w]
                    rfl
                  refine pure_ (i := 6) (N := some 21) (v := ?_) (a' := ?_) #[true, true, true, true, true, true, true, true, true, true, true, false, false, false, false, false, false] rfl rfl (any_of HT_.out (by kernel_rfl)) (fun _ _ _ h => h) (Or.inl ⟨by rfl, ?_⟩) ?_ ?_
                  rotate_left
                  · intro w'
                    go_simp
                    with_reducible rfl
                  rotate_left
                  · simp only [Act.put, List.setIfInBounds_toArray, List.set_cons_zero, List.set_cons_succ, i64_w, i32_w]
                    rfl
                  refine take_ (i := 11) (N := some 26) (v := ?_) (a' := ?_) #[true, true, true, true, true, true, true, true, true, true, true, true, false, false, false, false, false] rfl rfl (take_ofW HT_.out HW_.out (by kernel_rfl)) (fun _ _ _ h => h) (Or.inl ⟨by rfl, ?_⟩) hHeld ?_ ?_
                  rotate_left
                  · rintro w' ⟨s0, s1⟩
                    go_simp
                    with_reducible rfl
                  rotate_left
                  · simp only [Act.put, List.setIfInBounds_toArray, List.set_cons_zero, List.set_cons_succ, i64_w, i32_w]
                    rfl
                  refine pure_ (i := 12) (N := some 27) (v := ?_) (a' := ?_) #[true, true, true, true, true, true, true, true, true, true, true, true, true, false, false, false, false] rfl rfl (any_of HT_.out (by kernel_rfl)) (fun _ _ _ h => h) (Or.inl ⟨by rfl, ?_⟩) ?_ ?_
                  rotate_left
                  · intro w'
                    go_simp
                    with_reducible rfl
                  rotate_left
                  · simp only [Act.put, List.setIfInBounds_toArray, List.set_cons_zero, List.set_cons_succ, i64_w, i32_w]
                    rfl
                  refine pure_ (i := 13) (N := some 28) (v := ?_) (a' := ?_) #[true, true, true, true, true, true, true, true, true, true, true, true, true, true, false, false, false] rfl rfl (any_of HT_.out (by kernel_rfl)) (fun _ _ _ h => h) (Or.inl ⟨by rfl, ?_⟩) ?_ ?_
                  rotate_left
                  · intro w'
                    go_simp
                    with_reducible rfl
                  rotate_left
                  · simp only [Act.put, List.setIfInBounds_toArray, List.set_cons_zero, List.set_cons_succ, i64_w, i32_w]
                    rfl
                  refine one_ (i := 14) (N := some 29) #[true, true, true, true, true, true, true, true, true, true, true, true, true, true, true, false, false] rfl rfl (one_of HT_.out (by kernel_rfl)) (by decide) (fun K hK => ?_)
                  refine value_ (w1 := ?_) (v := ?_) (by rfl) rfl ?_ ?_
                  rotate_left 2
                  · go_simp
                    constructor
                    · rfl
                    · rfl
                  refine hK.out _ _ ⟨(World.cell?_alloc_lt _ _ _ (World.block_lt_of_cell? _ _ (((HB.out.cell (World.block_lt_of_cell? w _ hw101_0)).trans hw101_0)))).trans (((HB.out.cell (World.block_lt_of_cell? w _ hw101_0)).trans hw101_0)), (World.cell?_alloc_lt _ _ _ (World.block_lt_of_cell? _ _ (((HB.out.cell (World.block_lt_of_cell? w _ hw102_0)).trans hw102_0)))).trans (((HB.out.cell (World.block_lt_of_cell? w _ hw102_0)).trans hw102_0))⟩ (fun hHeld => ?_)
                  clear hK K
                  refine norm_ (a' := ?_) ?_ ?_
                  rotate_left
                  · show Act.put _ (some 29) _ = _
                    simp only [Act.put, List.setIfInBounds_toArray, List.set_cons_zero, List.set_cons_succ, i64_w, i32_w]
                    rfl
                  refine one_ (i := 15) (N := some 30) #[true, true, true, true, true, true, true, true, true, true, true, true, true, true, true, true, false] rfl rfl (one_of HT_.out (by kernel_rfl)) (by decide) (fun K hK => ?_)
                  refine Kd.R_append_step (Kd.int .u16) (w0 := w) w.heap.size (by rfl) (.tmp 15) (.tmp 29) 25 24 (.int .u16 0) 2 rfl Try.underlying25 info24 rfl (by decide) (by omega) u3 x3_1 (Go.bits .or .u16 (IntKind.u16.wrap ((IntKind.u16.wrap (rd l0 x4_1)) * 256)) (IntKind.u16.wrap (rd l0 (ji5)))) [.int .u16 (Go.bits .or .u16 (IntKind.u16.wrap ((IntKind.u16.wrap (rd l0 x4_1)) * 256)) (IntKind.u16.wrap (rd l0 (ji5))))] (fun _ => True) (fun _ => False) rfl rfl ?aP (fun _ hk => hk.elim) ?aF ?aO ?aB ?aS ?aL ?_
                  (case aP => exact rfl)
                  (case aB => exact (by repeat (first | (with_reducible first | exact HB.out | apply below_alloc | apply pw_below_drewN | apply below_drew1) | exact HB.out)))
                  (case aF => exact (fun _ _ => trivial))
                  (case aO => exact (by (with_reducible repeat (first | apply Kd.R_alloc | apply Kd.R_drewN | apply Kd.R_drew)); exact HO_3.out))
                  (case aS => exact (below_size (by repeat (first | (with_reducible first | exact HB.out | apply below_alloc | apply pw_below_drewN | apply below_drew1) | exact HB.out))))
                  (case aL => have := LMc8.out; omega)
                  intro v104 w10 ho hb hg hat
                  rw [← Ny103.out] at ho
                  have n0_ := Aside0.mk (hb)
                  have n1_ := Aside0.mk (ho)
                  clear HB
                  clear HO_3
                  have HB := n0_
                  have HO105 := n1_
                  clear n0_ n1_
                  clear ho hb hg hat
                  refine hK.out _ _ ⟨((HB.out.cell (World.block_lt_of_cell? w _ hw101_0)).trans hw101_0), ((HB.out.cell (World.block_lt_of_cell? w _ hw102_0)).trans hw102_0)⟩ (fun hHeld => ?_)
                  clear hK K
                  refine norm_ (a' := ?_) ?_ ?_
                  rotate_left
                  · show Act.put _ (some 30) _ = _
                    simp only [Act.put, List.setIfInBounds_toArray, List.set_cons_zero, List.set_cons_succ, i64_w, i32_w]
                    rfl
                  refine pure_ (i := 16) (N := some 3) (v := ?_) (a' := ?_) #[true, true, true, true, true, true, true, true, true, true, true, true, true, true, true, true, true] rfl rfl (any_of HT_.out (by kernel_rfl)) (fun _ _ _ h => h) (Or.inl ⟨by rfl, ?_⟩) ?_ ?_
                  rotate_left
                  · intro w'
                    go_simp
                    with_reducible rfl
                  rotate_left
                  · simp only [Act.put, List.setIfInBounds_toArray, List.set_cons_zero, List.set_cons_succ, i64_w, i32_w]
                    rfl
                  refine done_ (done_of HT_.out (by kernel_rfl)) ?_
                  try go_wp2
                  go_roundg k1
                  case measure => have := HK1.out; omega
                  case rel => exact ⟨(y103), (wrap64 (x4_1 + 2)), (by first | rfl | (simp; done) | (simp [*]; done)), H', ⟨by have := HK1.out; omega⟩, ⟨by (with_reducible repeat (first | apply Kd.R_alloc | apply Kd.R_drewN | apply Kd.R_drew)); exact HO105.out⟩, ⟨by repeat (first | (with_reducible first | exact HB.out | apply below_alloc | apply pw_below_drewN | apply below_drew1) | exact HB.out)⟩⟩
                · rw [if_neg c8] at H
                  exact absurd H (by simp)
              · rw [if_neg c7] at H
                exact absurd H (by simp)
            · rw [if_neg c6] at H
              exact absurd H (by simp)
          · rw [if_neg c4] at H
            exact absurd H (by simp)
        · rw [if_neg c3] at H
          have c3b0 : decide (x4_1 < (l0.length : Int)) = false := decide_eq_false c3
          clear c3
          obtain rfl := Option.some.inj H
          go_wp2
          go_ret
          exact ⟨_, by first | rfl | (simp [errW_none, errW_some] <;> rfl) | (simp [*, errW_none, errW_some] <;> rfl), by (with_reducible repeat (first | apply Kd.R_alloc | apply Kd.R_drewN | apply Kd.R_drew)); exact HO_3.out, by repeat (first | (with_reducible first | exact HB.out | apply below_alloc | apply pw_below_drewN | apply below_drew1) | exact HB.out)⟩
  · rw [if_neg c2] at H
    have c2b0 : (((l0.length : Int) % 2) == 0) = false := beq_eq_false_iff_ne.mpr c2
    have c2b1 : (((l0.length : Int) % 2) != 0) = true := bne_iff_ne.mpr c2
    obtain rfl := Option.some.inj H
    go_enter Try.func63, Try.ntmps63
    go_wp2
    go_ret
    exact ⟨_, by first | rfl | (simp [errW_none, errW_some] <;> rfl) | (simp [*, errW_none, errW_some] <;> rfl), by first | exact Kd.R_nil _ _ _ _ _ | exact Kd.N_nil _ _ _ _ _ | exact Kd.V_nil _ _ _ _ _ | exact Kd.Q_nil _ _ _ _ _ | exact Kd.S_nil _ _ _ _ _, by repeat (first | (with_reducible first | exact HB.out | apply below_alloc | apply pw_below_drewN | apply below_drew1) | exact HB.out)⟩
end Go.Proofs.Ytalaochocmcbcaa.P
end
section
namespace Go.Proofs.Ytalaochocmcbcaa.P
open Go.RowKit Go.Proofs.YtalaochocmcbcaaW.PrintWords Go.Proofs.YtalaochocmcbcaaW.PrintLast Go.Proofs.YtalaochocmcbcaaW.PrintMore
attribute [local go_sem] max2_int min2_int max_two min_two max_three min_three max_four min_four   -- for this text's walks alone
def busbarref04_Take.l0 : Nat → List Int → List Int → Int → Option (List Int)
  | 0, _, _, _ => none
  | k + 1, x0, x3, x4 => if (wrap64 (x4 + 1)) < (x0.length : Int) then (if 0 ≤ x4 then (if x4 < (x0.length : Int) then (if 0 ≤ (wrap64 (x4 + 1)) then (if x3.length < 70368744177664 then (busbarref04_Take.l0 k x0 (x3 ++ [IntKind.u16.wrap ((IntKind.u16.wrap (256 * (IntKind.u16.wrap (rd x0 x4)))) + (IntKind.u16.wrap (rd x0 (wrap64 (x4 + 1)))))]) (wrap64 (x4 + 2))) else (none)) else (none)) else (none)) else (none)) else (some x3)
def busbarref04_Take.f (k : Nat) (l0 : List Int) : Option (List Int) := if ((l0.length : Int) % 2) = 1 then (some ([] : List Int)) else (busbarref04_Take.l0 k l0 ([] : List Int) 0)
def busbarref04_Take.T7 : Bool × List (List Nat × List Nat) := (true, [([], []), ([], []), ([], []), ([1, 2], [1, 2]), ([3], [3]), ([4], [4]), ([5], [5]), ([], []), ([], []), ([8], [8]), ([7, 9], [7, 9]), ([10], [10]), ([11], [11]), ([6, 12], [6, 12]), ([13], [13]), ([0, 14], [0, 14]), ([15, 15, 0, 1, 2, 3, 4, 5, 6, 7, 8, 9, 10, 11, 12, 13, 14, 15], [0, 15])])
def busbarref04_Take.B7 : List Nat := [0, 0, 0, 6, 14, 30, 62, 0, 0, 256, 896, 1920, 3968, 8190, 16382, 32767, 65535]
theorem busbarref04_Take.tab7 : rtab .any (opsOf Try.f48 7) = busbarref04_Take.T7 := by kernel_rfl
theorem busbarref04_Take.bits7 : waitsOk busbarref04_Take.T7.2 busbarref04_Take.B7 = true := by kernel_rfl
theorem busbarref04_Take.calls (k : Nat) (A0 : Option Addr) (c0 : Nat) (l0 : List Int) (r : List Int) (w : World) (hr0 : Kd.C (Kd.int .u8) w A0 l0.length l0) (hc0 : l0.length ≤ c0) (h : busbarref04_Take.f k l0 = some r) :
    Calls Try.prog 48 #[.slice A0 l0.length c0] w fun e w' => ∃ v0_ : Value, e = .returned (v0_) ∧ Kd.R (Kd.int .u16) 24 w' w.heap.size (fun _ => True) v0_ r ∧ Below w.heap.size w w' := by
  have HR0 := Aside0.mk hr0
  have HC0 := Aside0.mk hc0
  clear hr0 hc0
  have HB := Aside0.mk (Below.refl w.heap.size w)
  have H : (if ((l0.length : Int) % 2) = 1 then (some ([] : List Int)) else (busbarref04_Take.l0 k l0 ([] : List Int) 0)) = some r := h
  clear h
  by_cases c2 : ((l0.length : Int) % 2) = 1
  · rw [if_pos c2] at H
    have c2b0 : (((l0.length : Int) % 2) == 1) = true := beq_iff_eq.mpr c2
    have c2b1 : (((l0.length : Int) % 2) != 1) = false := bne_eq_false_iff_eq.mpr c2
    clear c2
    obtain rfl := Option.some.inj H
    go_enter Try.func48, Try.ntmps48
    go_wp2
    go_ret
    exact ⟨_, by first | rfl | (simp [errW_none, errW_some] <;> rfl) | (simp [*, errW_none, errW_some] <;> rfl), by first | exact Kd.R_nil _ _ _ _ _ | exact Kd.N_nil _ _ _ _ _ | exact Kd.V_nil _ _ _ _ _ | exact Kd.Q_nil _ _ _ _ _ | exact Kd.S_nil _ _ _ _ _, by repeat (first | (with_reducible first | exact HB.out | apply below_alloc | apply pw_below_drewN | apply below_drew1) | exact HB.out)⟩
  · rw [if_neg c2] at H
    have c2b0 : (((l0.length : Int) % 2) == 1) = false := beq_eq_false_iff_ne.mpr c2
    have c2b1 : (((l0.length : Int) % 2) != 1) = true := bne_iff_ne.mpr c2
    have H' := Aside0.mk H
    clear H
    go_enter Try.func48, Try.ntmps48
    go_wp2
    go_loopg [3, 4] k (fun kq v3 v4 w' => ∃ (x3_1 : List Int) (x4_1 : Int), v4 = .int .i64 x4_1 ∧ Aside0 (busbarref04_Take.l0 kq l0 x3_1 x4_1 = some r) ∧ Aside0 (kq ≤ k) ∧ Aside0 (Kd.R (Kd.int .u16) 24 w' w.heap.size (fun _ => True) v3 x3_1) ∧ Aside0 (Below w.heap.size w w'))
    case atStart => exact ⟨(([] : List Int)), (0), (by first | rfl | (simp; done) | (simp [*]; done)), H', ⟨Nat.le_refl _⟩, ⟨by first | exact Kd.R_nil _ _ _ _ _ | exact Kd.N_nil _ _ _ _ _ | exact Kd.V_nil _ _ _ _ _ | exact Kd.Q_nil _ _ _ _ _ | exact Kd.S_nil _ _ _ _ _⟩, ⟨by repeat (first | (with_reducible first | exact HB.out | apply below_alloc | apply pw_below_drewN | apply below_drew1) | exact HB.out)⟩⟩
    case round =>
      clear H'
      try clear c2
      try clear c2b0
      try clear c2b1
      try clear p2
      obtain ⟨x3_1, x4_1, rfl, HA, HK1, HO_3, HB⟩ := hrel
      cases gk with
      | zero => exact absurd HA.out (by simp [busbarref04_Take.l0])
      | succ k1 =>
        have H := HA.out
        clear HA
        simp only [busbarref04_Take.l0] at H
        by_cases c3 : (wrap64 (x4_1 + 1)) < (l0.length : Int)
        · rw [if_pos c3] at H
          have c3b0 : decide ((wrap64 (x4_1 + 1)) < (l0.length : Int)) = true := decide_eq_true c3
          clear c3
          by_cases c4 : 0 ≤ x4_1
          · rw [if_pos c4] at H
            have c4b0 : decide (0 ≤ x4_1) = true := decide_eq_true c4
            clear c4
            by_cases c5 : x4_1 < (l0.length : Int)
            · rw [if_pos c5] at H
              have c5b0 : decide (x4_1 < (l0.length : Int)) = true := decide_eq_true c5
              clear c5
              obtain ⟨ji6, hji6⟩ : ∃ j_ : Int, (wrap64 (x4_1 + 1)) = j_ := ⟨_, rfl⟩
              replace H : (if 0 ≤ (ji6) then (if x3_1.length < 70368744177664 then (busbarref04_Take.l0 k1 l0 (x3_1 ++ [IntKind.u16.wrap ((IntKind.u16.wrap (256 * (IntKind.u16.wrap (rd l0 x4_1)))) + (IntKind.u16.wrap (rd l0 (ji6))))]) (wrap64 (x4_1 + 2))) else (none)) else (none)) = some r := by first | (rw [hji6] at H; exact H) | (simp only [hji6] at H ⊢; exact H)
              (try rw [hji6] at c3b0)
              have hji6w : (IntKind.i64.wrap (x4_1 + 1)) = ji6 := (i64_w _).trans hji6
              by_cases c7 : 0 ≤ (ji6)
              · rw [if_pos c7] at H
                have c7b0 : decide (0 ≤ (ji6)) = true := decide_eq_true c7
                clear c7
                by_cases c8 : x3_1.length < 70368744177664
                · rw [if_pos c8] at H
                  have LMc8 := Aside0.mk c8
                  clear c8
                  obtain ⟨y189, hy189⟩ : ∃ y_ : List Int, y_ = (x3_1 ++ [IntKind.u16.wrap ((IntKind.u16.wrap (256 * (IntKind.u16.wrap (rd l0 x4_1)))) + (IntKind.u16.wrap (rd l0 (ji6))))]) := ⟨_, rfl⟩
                  replace H : (busbarref04_Take.l0 k1 l0 y189 (wrap64 (x4_1 + 2))) = some r := by first | (rw [hy189]; with_reducible exact H) | (have H2_ := (Option.bind_some _ _).symm.trans H; rw [hy189]; with_reducible exact H2_) | (have H2_ := (Option.bind_some _ _).symm.trans H; with_reducible exact H2_) | with_reducible exact H | (rw [hy189]; exact H) | exact H
                  have Ny189 := Aside0.mk hy189
                  clear hy189
                  have H' := Aside0.mk H
                  clear H
                  try go_wp2
                  have n0_ := Aside0.mk (Kd.R_drew HO_3.out)
                  have n1_ := Aside0.mk (below_drew1 HB.out)
                  clear HO_3
                  clear HB
                  have HO_3 := n0_
                  have HB := n1_
                  clear n0_ n1_
                  have p187 : 0 ≤ (x4_1 : Int) := of_decide_eq_true (by first | (with_reducible assumption) | assumption)
                  have q187 : x4_1 < (l0.length : Int) := of_decide_eq_true (by first | (with_reducible assumption) | assumption)
                  obtain ⟨ad187, e187, hx187_0⟩ := Kd.at_int HR0.out x4_1 p187 q187
                  have hw187_0 := hx187_0
                  cases e187
                  replace hx187_0 := (HB.out.cell (World.block_lt_of_cell? w _ hx187_0)).trans hx187_0
                  replace p187 := eq_true p187
                  replace q187 := eq_true q187
                  have p188 : 0 ≤ ((ji6) : Int) := of_decide_eq_true (by first | (with_reducible assumption) | assumption)
                  have q188 : (ji6) < (l0.length : Int) := of_decide_eq_true (by first | (with_reducible assumption) | assumption)
                  obtain ⟨ad188, e188, hx188_0⟩ := Kd.at_int HR0.out (ji6) p188 q188
                  have hw188_0 := hx188_0
                  obtain rfl : ad187 = ad188 := (by injection e188)
                  replace hx188_0 := (HB.out.cell (World.block_lt_of_cell? w _ hx188_0)).trans hx188_0
                  replace p188 := eq_true p188
                  replace q188 := eq_true q188
                  refine start_ (n := 17) (S := fun w' => w'.cell? (ad187.add (x4_1).toNat) = some (.int .u8 (rd l0 x4_1)) ∧ w'.cell? (ad187.add ((ji6)).toNat) = some (.int .u8 (rd l0 (ji6)))) (ds := []) #[false, false, false, false, false, false, false, false, false, false, false, false, false, false, false, false, false] (by kernel_rfl) rfl rfl ⟨((HB.out.cell (World.block_lt_of_cell? w _ hw187_0)).trans hw187_0), ((HB.out.cell (World.block_lt_of_cell? w _ hw188_0)).trans hw188_0)⟩ (fun hHeld => ?_); refine with_tabW busbarref04_Take.tab7 busbarref04_Take.bits7 (fun HT_ HW_ => ?_)
                  generalize wr.drew = w9 at HO_3 HB hx187_0 hx188_0 hHeld ⊢
                  refine pure_ (i := 0) (N := some 16) (v := ?_) (a' := ?_) #[true, false, false, false, false, false, false, false, false, false, false, false, false, false, false, false, false] rfl rfl (any_of HT_.out (by kernel_rfl)) (fun _ _ _ h => h) (Or.inl ⟨by rfl, ?_⟩) ?_ ?_
                  rotate_left
                  · intro w'
                    go_simp
                    with_reducible rfl
                  rotate_left
                  · simp only [Act.put, List.setIfInBounds_toArray, List.set_cons_zero, List.set_cons_succ, i64_w, i32_w]
                    rfl
                  refine pure_ (i := 1) (N := some 17) (v := ?_) (a' := ?_) #[true, true, false, false, false, false, false, false, false, false, false, false, false, false, false, false, false] rfl rfl (any_of HT_.out (by kernel_rfl)) (fun _ _ _ h => h) (Or.inl ⟨by rfl, ?_⟩) ?_ ?_
                  rotate_left
                  · intro w'
                    go_simp
                    with_reducible rfl
                  rotate_left
                  · simp only [Act.put, List.setIfInBounds_toArray, List.set_cons_zero, List.set_cons_succ, i64_w, i32_w]
                    rfl
                  refine pure_ (i := 2) (N := some 18) (v := ?_) (a' := ?_) #[true, true, true, false, false, false, false, false, false, false, false, false, false, false, false, false, false] rfl rfl (any_of HT_.out (by kernel_rfl)) (fun _ _ _ h => h) (Or.inl ⟨by rfl, ?_⟩) ?_ ?_
                  rotate_left
                  · intro w'
                    go_simp
                    with_reducible rfl
                  rotate_left
                  · simp only [Act.put, List.setIfInBounds_toArray, List.set_cons_zero, List.set_cons_succ, i64_w, i32_w]
                    rfl
                  refine pure_ (i := 3) (N := some 19) (v := ?_) (a' := ?_) #[true, true, true, true, false, false, false, false, false, false, false, false, false, false, false, false, false] rfl rfl (any_of HT_.out (by kernel_rfl)) (fun _ _ _ h => h) (Or.inl ⟨by rfl, ?_⟩) ?_ ?_
                  rotate_left
                  · intro w'
                    go_simp
                    with_reducible rfl
                  rotate_left
                  · simp only [Act.put, List.setIfInBounds_toArray, List.set_cons_zero, List.set_cons_succ, i64_w, i32_w]
                    rfl
                  refine pure_ (i := 7) (N := some 23) (v := ?_) (a' := ?_) #[true, true, true, true, false, false, false, true, false, false, false, false, false, false, false, false, false] rfl rfl (any_of HT_.out (by kernel_rfl)) (fun _ _ _ h => h) (Or.inl ⟨by rfl, ?_⟩) ?_ ?_
                  rotate_left
                  · intro w'
                    go_simp
                    with_reducible rfl
                  rotate_left
                  · simp only [Act.put, List.setIfInBounds_toArray, List.set_cons_zero, List.set_cons_succ, i64_w, i32_w]
                    rfl
                  refine pure_ (i := 8) (N := some 24) (v := ?_) (a' := ?_) #[true, true, true, true, false, false, false, true, true, false, false, false, false, false, false, false, false] rfl rfl (any_of HT_.out (by kernel_rfl)) (fun _ _ _ h => h) (Or.inl ⟨by rfl, ?_⟩) ?_ ?_
                  rotate_left
                  · intro w'
                    go_simp
                    with_reducible rfl
                  rotate_left
                  · simp only [Act.put, List.setIfInBounds_toArray, List.set_cons_zero, List.set_cons_succ, i64_w, i32_w]
                    rfl
                  refine pure_ (i := 9) (N := some 25) (v := ?_) (a' := ?_) #[true, true, true, true, false, false, false, true, true, true, false, false, false, false, false, false, false] rfl rfl (any_of HT_.out (by kernel_rfl)) (fun _ _ _ h => h) (Or.inl ⟨by rfl, ?_⟩) ?_ ?_
                  rotate_left
                  · intro w'
                    go_simp
                    with_reducible rfl
                  rotate_left
                  · simp only [Act.put, List.setIfInBounds_toArray, List.set_cons_zero, List.set_cons_succ, i64_w, i32_w]
                    rfl
                  refine pure_ (i := 10) (N := some 26) (v := ?_) (a' := ?_) #[true, true, true, true, false, false, false, true, true, true, true, false, false, false, false, false, false] rfl rfl (any_of HT_.out (by kernel_rfl)) (fun _ _ _ h => h) (Or.inl ⟨by rfl, ?_⟩) ?_ ?_
                  rotate_left
                  · intro w'
                    go_simp
                    with_reducible rfl
                  rotate_left
                  · simp only [Act.put, List.setIfInBounds_toArray, List.set_cons_zero, List.set_cons_succ, i64_w, i32_w]
                    rfl
                  refine take_ (i := 4) (N := some 20) (v := ?_) (a' := ?_) #[true, true, true, true, true, false, false, true, true, true, true, false, false, false, false, false, false] rfl rfl (take_ofW HT_.out HW_.out (by kernel_rfl)) (fun _ _ _ h => h) (Or.inl ⟨by rfl, ?_⟩) hHeld ?_ ?_
                  rotate_left
                  · rintro w' ⟨s0, s1⟩
                    go_simp
                    with_reducible rfl
                  rotate_left
                  · simp only [Act.put, List.setIfInBounds_toArray, List.set_cons_zero, List.set_cons_succ, i64_w, i32_w]
                    rfl
                  refine pure_ (i := 5) (N := some 21) (v := ?_) (a' := ?_) #[true, true, true, true, true, true, false, true, true, true, true, false, false, false, false, false, false] rfl rfl (any_of HT_.out (by kernel_rfl)) (fun _ _ _ h => h) (Or.inl ⟨by rfl, ?_⟩) ?_ ?_
                  rotate_left
                  · intro w'
                    go_simp
                    with_reducible rfl
                  rotate_left
                  · simp only [Act.put, List.setIfInBounds_toArray, List.set_cons_zero, List.set_cons_succ, i64_w, i32_w]
                    rfl
                  refine pure_ (i := 6) (N := some 22) (v := ?_) (a' := ?_) #[true, true, true, true, true, true, true, true, true, true, true, false, false, false, false, false, false] rfl rfl (any_of HT_.out (by kernel_rfl)) (fun _ _ _ h => h) (Or.inl ⟨by rfl, ?_⟩) ?_ ?_
                  rotate_left
                  · intro w'
                    go_simp
                    with_reducible rfl
                  rotate_left
                  · simp only [Act.put, List.setIfInBounds_toArray, List.set_cons_zero, List.set_cons_succ, i64_w, i32_w]
                    rfl
                  refine take_ (i := 11) (N := some 27) (v := ?_) (a' := ?_) #[true, true, true, true, true, true, true, true, true, true, true, true, false, false, false, false, false] rfl rfl (take_ofW HT_.out HW_.out (by kernel_rfl)) (fun _ _ _ h => h) (Or.inl ⟨by rfl, ?_⟩) hHeld ?_ ?_
                  rotate_left
                  · rintro w' ⟨s0, s1⟩
                    go_simp
                    with_reducible rfl
                  rotate_left
                  · simp only [Act.put, List.setIfInBounds_toArray, List.set_cons_zero, List.set_cons_succ, i64_w, i32_w]
                    rfl
                  refine pure_ (i := 12) (N := some 28) (v := ?_) (a' := ?_) #[true, true, true, true, true, true, true, true, true, true, true, true, true, false, false, false, false] rfl rfl (any_of HT_.out (by kernel_rfl)) (fun _ _ _ h => h) (Or.inl ⟨by rfl, ?_⟩) ?_ ?_
                  rotate_left
                  · intro w'
                    go_simp
                    with_reducible rfl
                  rotate_left
                  · simp only [Act.put, List.setIfInBounds_toArray, List.set_cons_zero, List.set_cons_succ, i64_w, i32_w]
                    rfl
                  refine pure_ (i := 13) (N := some 29) (v := ?_) (a' := ?_) #[true, true, true, true, true, true, true, true, true, true, true, true, true, true, false, false, false] rfl rfl (any_of HT_.out (by kernel_rfl)) (fun _ _ _ h => h) (Or.inl ⟨by rfl, ?_⟩) ?_ ?_
                  rotate_left
                  · intro w'
                    go_simp
                    with_reducible rfl
                  rotate_left
                  · simp only [Act.put, List.setIfInBounds_toArray, List.set_cons_zero, List.set_cons_succ, i64_w, i32_w]
                    rfl
                  refine one_ (i := 14) (N := some 30) #[true, true, true, true, true, true, true, true, true, true, true, true, true, true, true, false, false] rfl rfl (one_of HT_.out (by kernel_rfl)) (by decide) (fun K hK => ?_)
                  refine value_ (w1 := ?_) (v := ?_) (by rfl) rfl ?_ ?_
                  rotate_left 2
                  · go_simp
                    constructor
                    · rfl
                    · rfl
                  refine hK.out _ _ ⟨(World.cell?_alloc_lt _ _ _ (World.block_lt_of_cell? _ _ (((HB.out.cell (World.block_lt_of_cell? w _ hw187_0)).trans hw187_0)))).trans (((HB.out.cell (World.block_lt_of_cell? w _ hw187_0)).trans hw187_0)), (World.cell?_alloc_lt _ _ _ (World.block_lt_of_cell? _ _ (((HB.out.cell (World.block_lt_of_cell? w _ hw188_0)).trans hw188_0)))).trans (((HB.out.cell (World.block_lt_of_cell? w _ hw188_0)).trans hw188_0))⟩ (fun hHeld => ?_)
                  clear hK K
                  refine norm_ (a' := ?_) ?_ ?_
                  rotate_left
                  · show Act.put _ (some 30) _ = _
                    simp only [Act.put, List.setIfInBounds_toArray, List.set_cons_zero, List.set_cons_succ, i64_w, i32_w]
                    rfl
                  refine one_ (i := 15) (N := some 31) #[true, true, true, true, true, true, true, true, true, true, true, true, true, true, true, true, false] rfl rfl (one_of HT_.out (by kernel_rfl)) (by decide) (fun K hK => ?_)
                  refine Kd.R_append_step (Kd.int .u16) (w0 := w) w.heap.size (by rfl) (.tmp 16) (.tmp 30) 25 24 (.int .u16 0) 2 rfl Try.underlying25 info24 rfl (by decide) (by omega) u3 x3_1 (IntKind.u16.wrap ((IntKind.u16.wrap (256 * (IntKind.u16.wrap (rd l0 x4_1)))) + (IntKind.u16.wrap (rd l0 (ji6))))) [.int .u16 (IntKind.u16.wrap ((IntKind.u16.wrap (256 * (IntKind.u16.wrap (rd l0 x4_1)))) + (IntKind.u16.wrap (rd l0 (ji6)))))] (fun _ => True) (fun _ => False) rfl rfl ?aP (fun _ hk => hk.elim) ?aF ?aO ?aB ?aS ?aL ?_
                  (case aP => exact rfl)
                  (case aB => exact (by repeat (first | (with_reducible first | exact HB.out | apply below_alloc | apply pw_below_drewN | apply below_drew1) | exact HB.out)))
                  (case aF => exact (fun _ _ => trivial))
                  (case aO => exact (by (with_reducible repeat (first | apply Kd.R_alloc | apply Kd.R_drewN | apply Kd.R_drew)); exact HO_3.out))
                  (case aS => exact (below_size (by repeat (first | (with_reducible first | exact HB.out | apply below_alloc | apply pw_below_drewN | apply below_drew1) | exact HB.out))))
                  (case aL => have := LMc8.out; omega)
                  intro v190 w10 ho hb hg hat
                  rw [← Ny189.out] at ho
                  have n0_ := Aside0.mk (hb)
                  have n1_ := Aside0.mk (ho)
                  clear HB
                  clear HO_3
                  have HB := n0_
                  have HO191 := n1_
                  clear n0_ n1_
                  clear ho hb hg hat
                  refine hK.out _ _ ⟨((HB.out.cell (World.block_lt_of_cell? w _ hw187_0)).trans hw187_0), ((HB.out.cell (World.block_lt_of_cell? w _ hw188_0)).trans hw188_0)⟩ (fun hHeld => ?_)
                  clear hK K
                  refine norm_ (a' := ?_) ?_ ?_
                  rotate_left
                  · show Act.put _ (some 31) _ = _
                    simp only [Act.put, List.setIfInBounds_toArray, List.set_cons_zero, List.set_cons_succ, i64_w, i32_w]
                    rfl
                  refine pure_ (i := 16) (N := some 3) (v := ?_) (a' := ?_) #[true, true, true, true, true, true, true, true, true, true, true, true, true, true, true, true, true] rfl rfl (any_of HT_.out (by kernel_rfl)) (fun _ _ _ h => h) (Or.inl ⟨by rfl, ?_⟩) ?_ ?_
                  rotate_left
                  · intro w'
                    go_simp
                    with_reducible rfl
                  rotate_left
                  · simp only [Act.put, List.setIfInBounds_toArray, List.set_cons_zero, List.set_cons_succ, i64_w, i32_w]
                    rfl
                  refine done_ (done_of HT_.out (by kernel_rfl)) ?_
                  try go_wp2
                  go_roundg k1
                  case measure => have := HK1.out; omega
                  case rel => exact ⟨(y189), (wrap64 (x4_1 + 2)), (by first | rfl | (simp; done) | (simp [*]; done)), H', ⟨by have := HK1.out; omega⟩, ⟨by (with_reducible repeat (first | apply Kd.R_alloc | apply Kd.R_drewN | apply Kd.R_drew)); exact HO191.out⟩, ⟨by repeat (first | (with_reducible first | exact HB.out | apply below_alloc | apply pw_below_drewN | apply below_drew1) | exact HB.out)⟩⟩
                · rw [if_neg c8] at H
                  exact absurd H (by simp)
              · rw [if_neg c7] at H
                exact absurd H (by simp)
            · rw [if_neg c5] at H
              exact absurd H (by simp)
          · rw [if_neg c4] at H
            exact absurd H (by simp)
        · rw [if_neg c3] at H
          have c3b0 : decide ((wrap64 (x4_1 + 1)) < (l0.length : Int)) = false := decide_eq_false c3
          clear c3
          obtain rfl := Option.some.inj H
          go_wp2
          go_ret
          exact ⟨_, by first | rfl | (simp [errW_none, errW_some] <;> rfl) | (simp [*, errW_none, errW_some] <;> rfl), by (with_reducible repeat (first | apply Kd.R_alloc | apply Kd.R_drewN | apply Kd.R_drew)); exact HO_3.out, by repeat (first | (with_reducible first | exact HB.out | apply below_alloc | apply pw_below_drewN | apply below_drew1) | exact HB.out)⟩
end Go.Proofs.Ytalaochocmcbcaa.P
end
section
namespace Go.Proofs.Ytalaochocmcbcaa.Take
open Go.RowKit Go.Proofs.Ytalaochocmcbcaa.P Go.Proofs.Ytalaochocmcbcaa.E Go.Proofs.YtalaochocmcbcaaW.PrintWords Go.Proofs.YtalaochocmcbcaaW.PrintLast Go.Proofs.YtalaochocmcbcaaW.PrintMore
def wordAt (l : List Int) (j : Nat) : Int := l.getD (2 * j) 0 * 256 + l.getD (2 * j + 1) 0
def pre (l : List Int) (j : Nat) : List Int := (List.range j).map (wordAt l)
theorem pre_succ (l : List Int) (j : Nat) : pre l (j + 1) = pre l j ++ [wordAt l j] := by unfold pre; rw [List.range_succ, List.map_append]; rfl
theorem pre_length (l : List Int) (j : Nat) : (pre l j).length = j := by simp [pre]
def words (l : List Int) : List Int := if l.length % 2 = 0 then pre l (l.length / 2) else []
theorem wrap16 {x : Int} (h0 : 0 ≤ x) (h1 : x < 65536) : IntKind.u16.wrap x = x := by simp [IntKind.wrap, IntKind.bits, IntKind.signed]; omega
theorem join (a b : Int) (ha : 0 ≤ a ∧ a < 256) (hb : 0 ≤ b ∧ b < 256) : Go.bits .or .u16 (IntKind.u16.wrap ((IntKind.u16.wrap a) * 256)) (IntKind.u16.wrap b) = a * 256 + b := by
  rw [wrap16 ha.1 (by omega), wrap16 hb.1 (by omega), wrap16 (by omega) (by omega)]
  exact bits_join .u16 16 (by decide) (fun n h0 h1 => by simp [IntKind.wrap, IntKind.bits, IntKind.signed]; omega) 8 (a * 256) b (by omega) (by omega) (by omega) hb.1 (by omega) (by omega)
theorem rd_at (l : List Int) (i : Nat) : rd l (i : Int) = l.getD i 0 := by simp [rd]
theorem loop (l : List Int) (hb : isBytes l) (hl : l.length ≤ 1000000) (he : l.length % 2 = 0) (d : Nat) : ∀ j, j + d = l.length / 2 → Ev (fun k => word_Take.l0 k l (pre l j) ((2 * j : Nat) : Int)) (pre l (l.length / 2)) := by
  induction d with
  | zero =>
    intro j hj
    have c : ¬ ((2 * j : Nat) : Int) < (l.length : Int) := by omega
    refine Ev.step (f := fun _ => some (pre l j)) (fun k => ?_) (ret (by rw [← hj]; rfl))
    simp only [word_Take.l0]
    rw [if_neg c]
  | succ d ih =>
    intro j hj
    have c1 : ((2 * j : Nat) : Int) < (l.length : Int) := by omega
    have c2 : (0 : Int) ≤ ((2 * j : Nat) : Int) := by omega
    have d1 : ((2 * j : Nat) : Int) + 1 = ((2 * j + 1 : Nat) : Int) := by omega
    have d2 : ((2 * j : Nat) : Int) + 2 = ((2 * (j + 1) : Nat) : Int) := by omega
    have e1 : -9223372036854775808 ≤ ((2 * j + 1 : Nat) : Int) := by omega
    have e2 : ((2 * j + 1 : Nat) : Int) < 9223372036854775808 := by omega
    have e3 : -9223372036854775808 ≤ ((2 * (j + 1) : Nat) : Int) := by omega
    have e4 : ((2 * (j + 1) : Nat) : Int) < 9223372036854775808 := by omega
    have c3 : (0 : Int) ≤ ((2 * j + 1 : Nat) : Int) := by omega
    have c4 : ((2 * j + 1 : Nat) : Int) < (l.length : Int) := by omega
    have c5 : (pre l j).length < 70368744177664 := by rw [pre_length]; omega
    refine Ev.step (f := fun k => word_Take.l0 k l (pre l (j + 1)) ((2 * (j + 1) : Nat) : Int)) (fun k => ?_) (ih (j + 1) (by omega))
    simp only [word_Take.l0]
    rw [d1, d2, wrap64_id e1 e2, wrap64_id e3 e4, if_pos c1, if_pos c2, if_pos c3, if_pos c4, if_pos c5, rd_at, rd_at, join _ _ (isBytes_rd hb _) (isBytes_rd hb _), pre_succ]; rfl
theorem take_ev (l : List Int) (hb : isBytes l) (hl : l.length ≤ 1000000) : Ev (fun k => word_Take.f k l) (words l) := by
  unfold word_Take.f words
  by_cases he : l.length % 2 = 0
  · rw [if_pos he]
    exact pos (by omega) (loop l hb hl he (l.length / 2) 0 (by omega))
  · rw [if_neg he]
    exact neg (by omega) (ret rfl)
theorem join2 (a b : Int) (ha : 0 ≤ a ∧ a < 256) (hb : 0 ≤ b ∧ b < 256) : IntKind.u16.wrap ((IntKind.u16.wrap (256 * (IntKind.u16.wrap a))) + (IntKind.u16.wrap b)) = a * 256 + b := by
  rw [wrap16 (x := a) ha.1 (by omega), wrap16 (x := b) hb.1 (by omega), wrap16 (x := 256 * a) (by omega) (by omega), wrap16 (x := 256 * a + b) (by omega) (by omega)]
  omega
theorem ref_loop (l : List Int) (hb : isBytes l) (hl : l.length ≤ 1000000) (he : l.length % 2 = 0) (d : Nat) : ∀ j, j + d = l.length / 2 → Ev (fun k => busbarref04_Take.l0 k l (pre l j) ((2 * j : Nat) : Int)) (pre l (l.length / 2)) := by
  induction d with
  | zero =>
    intro j hj
    have c : ¬ ((2 * j + 1 : Nat) : Int) < (l.length : Int) := by omega
    have d1 : ((2 * j : Nat) : Int) + 1 = ((2 * j + 1 : Nat) : Int) := by omega
    have e1 : -9223372036854775808 ≤ ((2 * j + 1 : Nat) : Int) := by omega
    have e2 : ((2 * j + 1 : Nat) : Int) < 9223372036854775808 := by omega
    refine Ev.step (f := fun _ => some (pre l j)) (fun k => ?_) (ret (by rw [← hj]; rfl))
    simp only [busbarref04_Take.l0]
    rw [d1, wrap64_id e1 e2, if_neg c]
  | succ d ih =>
    intro j hj
    have c1 : ((2 * j : Nat) : Int) < (l.length : Int) := by omega
    have c2 : (0 : Int) ≤ ((2 * j : Nat) : Int) := by omega
    have d1 : ((2 * j : Nat) : Int) + 1 = ((2 * j + 1 : Nat) : Int) := by omega
    have d2 : ((2 * j : Nat) : Int) + 2 = ((2 * (j + 1) : Nat) : Int) := by omega
    have e1 : -9223372036854775808 ≤ ((2 * j + 1 : Nat) : Int) := by omega
    have e2 : ((2 * j + 1 : Nat) : Int) < 9223372036854775808 := by omega
    have e3 : -9223372036854775808 ≤ ((2 * (j + 1) : Nat) : Int) := by omega
    have e4 : ((2 * (j + 1) : Nat) : Int) < 9223372036854775808 := by omega
    have c3 : (0 : Int) ≤ ((2 * j + 1 : Nat) : Int) := by omega
    have c4 : ((2 * j + 1 : Nat) : Int) < (l.length : Int) := by omega
    have c5 : (pre l j).length < 70368744177664 := by rw [pre_length]; omega
    refine Ev.step (f := fun k => busbarref04_Take.l0 k l (pre l (j + 1)) ((2 * (j + 1) : Nat) : Int)) (fun k => ?_) (ih (j + 1) (by omega))
    simp only [busbarref04_Take.l0]
    rw [d1, d2, wrap64_id e1 e2, wrap64_id e3 e4, if_pos c4, if_pos c2, if_pos c1, if_pos c3, if_pos c5, rd_at, rd_at, join2 _ _ (isBytes_rd hb _) (isBytes_rd hb _), pre_succ]; rfl
theorem reftake_ev (l : List Int) (hb : isBytes l) (hl : l.length ≤ 1000000) : Ev (fun k => busbarref04_Take.f k l) (words l) := by
  unfold busbarref04_Take.f words
  by_cases he : l.length % 2 = 0
  · rw [if_pos he]
    exact neg (by omega) (ref_loop l hb hl he (l.length / 2) 0 (by omega))
  · rw [if_neg he]
    exact pos (by omega) (ret rfl)
end Go.Proofs.Ytalaochocmcbcaa.Take
end
section
namespace Go.Proofs.Ytalaochocmcbcaa.Cur
open Go.RowKit Go.Proofs.Ytalaochocmcbcaa.P Go.Proofs.Ytalaochocmcbcaa.E Go.Proofs.YtalaochocmcbcaaW.PrintWords Go.Proofs.YtalaochocmcbcaaW.PrintLast Go.Proofs.YtalaochocmcbcaaW.PrintMore
def Row16 (lo hi : Nat) (w : World) (A : Option Addr) (xs : List Int) : Prop := ∀ W', Kept w W' (fun k => k < lo ∨ hi ≤ k) → Kd.C (Kd.int .u16) W' A xs.length xs
theorem Row16.now {lo hi : Nat} {w : World} {A : Option Addr} {xs : List Int} (h : Row16 lo hi w A xs) : Kd.C (Kd.int .u16) w A xs.length xs := h w (Kept.refl _ _)
theorem Row16.on {lo hi : Nat} {w w' : World} {A : Option Addr} {xs : List Int} (h : Row16 lo hi w A xs) (hk : Kept w w' (fun k => k < lo ∨ hi ≤ k)) : Row16 lo hi w' A xs := fun W' hk' => h W' (hk.then_ hk' (fun _ h2 => .inl h2))
theorem Row16.wide {lo hi lo' hi' : Nat} {w : World} {A : Option Addr} {xs : List Int} (h : Row16 lo hi w A xs) (h1 : lo' ≤ lo) (h2 : hi ≤ hi') : Row16 lo' hi' w A xs := fun W' hk => h W' (hk.mono fun k hk => by omega)
theorem row16_of_R {w1 : World} {e : Nat} {ok : Nat → Prop} {A : Option Addr} {n c lo : Nat} {xs : List Int} (h : Kd.R (Kd.int .u16) e w1 lo ok (.slice A n c) xs) : n = xs.length ∧ xs.length ≤ c ∧ Row16 lo w1.heap.size w1 A xs := by
  have h2 := Kd.R_reads' h
  obtain ⟨rfl, h3, _⟩ := h2
  exact ⟨rfl, h3, Kd.C_kept_own (Kd.R_bound h) (fun k hk => by omega)⟩
theorem at_row16 {lo hi : Nat} {w : World} {A : Option Addr} {xs : List Int} (h : Row16 lo hi w A xs) (i : Nat) (hi : i < xs.length) : ∃ ad, A = some ad ∧ w.cell? (ad.add i) = some (.int .u16 (xs.getD i 0)) := by
  obtain ⟨ad, e, h2⟩ := Kd.at_int h.now (i : Int) (by omega) (by omega)
  rw [Int.toNat_natCast] at h2
  refine ⟨ad, e, h2.trans ?_⟩
  simp [rd]
theorem take_any (A : Option Addr) (c : Nat) (l : List Int) (w : World) (hr : Kd.C (Kd.int .u8) w A l.length l) (hc : l.length ≤ c) (hb : isBytes l) (hl : l.length ≤ 1000000) :
    Calls Try.prog 63 #[.slice A l.length c] w fun e w' => ∃ A' c', e = .returned (.slice A' (Take.words l).length c') ∧ (Take.words l).length ≤ c' ∧ Row16 w.heap.size w'.heap.size w' A' (Take.words l) ∧ Below w.heap.size w w' := by
  obtain ⟨k, hk⟩ := (Take.take_ev l hb hl).rounds
  refine (word_Take.calls k A c l _ w hr hc hk).mono ?_
  rintro e w' ⟨v, rfl, R, B⟩
  obtain ⟨A2, c2, rfl, h2, h3⟩ := Kd.R_reads R
  obtain ⟨_, h5, h6⟩ := row16_of_R R
  exact ⟨A2, c2, rfl, h5, h6, B⟩
theorem numbers_neg (lo hi g : Nat) (xs : List Int) (s : Bool) (e n most : Int) (w : World) (h : At lo hi w g xs s e) (hn : n < 0 ∨ most < n) :
    Calls Try.prog 59 #[.func (.func 47) #[.pointer (some ⟨g, 0, none⟩)] #[], .int .i64 n, .int .i64 most] w fun en w' => en = .returned (.slice none 0 0) ∧ At lo hi w' g [] true (fstE e 2) ∧ Upd g w w' := by
  have HB := Aside0.mk (bytes_short lo hi g xs s e (-1) w h (.inr (.inl (by decide))))
  clear h
  by_cases c1 : n < 0
  · go_enter Try.func59, Try.ntmps59
    go_wp2_with (go_at_call 47; refine HB.out.mono ?_; rintro en w1 ⟨rfl, b3, b4⟩; have N3 := Aside0.mk b3; have N4 := Aside0.mk b4; clear b3 b4 HB)
    go_ret
    exact ⟨rfl, N3.out, N4.out⟩
  · have c2 : most < n := hn.resolve_left c1
    have c3 : decide (n > most) = true := decide_eq_true c2
    go_enter Try.func59, Try.ntmps59
    go_wp2_with (go_at_call 47; refine HB.out.mono ?_; rintro en w1 ⟨rfl, b3, b4⟩; have N3 := Aside0.mk b3; have N4 := Aside0.mk b4; clear b3 b4 HB)
    go_ret
    exact ⟨rfl, N3.out, N4.out⟩
theorem numbers_few (lo hi g : Nat) (xs : List Int) (s : Bool) (e : Int) (m most : Nat) (w : World) (h : At lo hi w g xs s e) (hm : m ≤ most) (hmost : most ≤ 1000000) (hs : s = true ∨ xs.length < 2 * m) :
    Calls Try.prog 59 #[.func (.func 47) #[.pointer (some ⟨g, 0, none⟩)] #[], .int .i64 m, .int .i64 most] w fun en w' => ∃ A' c', en = .returned (.slice A' 0 c') ∧ At lo hi w' g [] true (fstE e 2) ∧ Upd g w w' := by
  have HB := Aside0.mk (bytes_short lo hi g xs s e ((2 * m : Nat) : Int) w h (by rcases hs with h | h; exact .inl h; exact .inr (.inr (by omega))))
  clear h
  have c1 : decide ((m : Int) < 0) = false := decide_eq_false (by omega)
  have c2 : decide ((m : Int) > (most : Int)) = false := decide_eq_false (by omega)
  have c4 : decide ((most : Int) < (m : Int)) = false := decide_eq_false (by omega)
  have c3 : wrap64 (2 * (m : Int)) = ((2 * m : Nat) : Int) := by rw [wrap64_id (by omega) (by omega)]; omega
  have hT := fun W : World => take_any none 0 [] W (Kd.C_nil _ W) (Nat.le_refl _) (fun x hx => by cases hx) (by simp)
  have HT := Aside0.mk hT
  clear hT
  go_enter Try.func59, Try.ntmps59
  go_wp2_with (first | (go_at_call 47; refine HB.out.mono ?_; rintro en w1 ⟨rfl, b3, b4⟩; have N3 := Aside0.mk b3; have N4 := Aside0.mk b4; clear b3 b4 HB) | (go_at_call 63; refine (HT.out w1).mono ?_; rintro en w2 ⟨A2, c2_, rfl, d1, d2, d3⟩; have D2 := Aside0.mk d2; have D3 := Aside0.mk d3; clear d1 d2 d3))
  go_ret
  have hN : At lo hi w2 g [] true (fstE e 2) := N3.out.below D3.out
  exact ⟨A2, c2_, rfl, hN, N4.out.trans (Upd.of_below D3.out)⟩
theorem numbers_ok (lo hi g : Nat) (xs : List Int) (e : Int) (m most : Nat) (w : World) (h : At lo hi w g xs false e) (hm : m ≤ most) (hmost : most ≤ 1000000) (hs : 2 * m ≤ xs.length) (hl : xs.length ≤ 1000000) (hb : isBytes xs) :
    Calls Try.prog 59 #[.func (.func 47) #[.pointer (some ⟨g, 0, none⟩)] #[], .int .i64 m, .int .i64 most] w fun en w' => ∃ A' c', en = .returned (.slice A' (Take.words (xs.take (2 * m))).length c') ∧ (Take.words (xs.take (2 * m))).length ≤ c' ∧ Row16 w.heap.size w'.heap.size w' A' (Take.words (xs.take (2 * m))) ∧ At lo hi w' g (xs.drop (2 * m)) false e ∧ Upd g w w' := by
  have HB := Aside0.mk (bytes_ok lo hi g xs e (2 * m) w h hs hl)
  clear h
  have c1 : decide ((m : Int) < 0) = false := decide_eq_false (by omega)
  have c2 : decide ((m : Int) > (most : Int)) = false := decide_eq_false (by omega)
  have c4 : decide ((most : Int) < (m : Int)) = false := decide_eq_false (by omega)
  have c3 : wrap64 (2 * (m : Int)) = ((2 * m : Nat) : Int) := by rw [wrap64_id (by omega) (by omega)]; omega
  have hT := fun (W : World) (A : Option Addr) (c : Nat) (hr : Kd.C (Kd.int .u8) W A (xs.take (2 * m)).length (xs.take (2 * m))) (hc : (xs.take (2 * m)).length ≤ c) => take_any A c (xs.take (2 * m)) W hr hc (isBytes_take hb _) (by rw [List.length_take]; omega)
  have HT := Aside0.mk hT
  clear hT
  generalize hws : Take.words (xs.take (2 * m)) = ws at *
  clear hws
  generalize xs.take (2 * m) = bs at *
  go_enter Try.func59, Try.ntmps59
  go_wp2_with (first | (go_at_call 47; refine HB.out.mono ?_; rintro en w1 ⟨A1, c1_, rfl, b1, b2, b3, b4⟩; have N1 := Aside0.mk b1; have N2 := Aside0.mk b2; have N3 := Aside0.mk b3; have N4 := Aside0.mk b4; clear b1 b2 b3 b4 HB) | (go_at_call 63; refine (HT.out w1 A1 c1_ N2.out.now N1.out).mono ?_; rintro en w2 ⟨A2, c2_, rfl, d1, d2, d3⟩; have D1 := Aside0.mk d1; have D2 := Aside0.mk d2; have D3 := Aside0.mk d3; clear d1 d2 d3))
  go_ret
  exact ⟨A2, c2_, rfl, D1.out, D2.out.wide N4.out.kept.1 (Nat.le_refl _), N3.out.below D3.out, N4.out.trans (Upd.of_below D3.out)⟩
theorem words_short (lo hi g : Nat) (xs : List Int) (s : Bool) (e n : Int) (w : World) (h : At lo hi w g xs s e) (hl : xs.length ≤ 1000000) (hn : s = true ∨ n < 0 ∨ (xs.length : Int) < 2 * n) :
    Calls Try.prog 42 #[.pointer (some ⟨g, 0, none⟩), .int .i64 n] w fun en w' => ∃ A' c', en = .returned (.slice A' 0 c') ∧ At lo hi w' g [] true (fstE e 2) ∧ Upd g w w' := by
  have hN : Calls Try.prog 59 #[.func (.func 47) #[.pointer (some ⟨g, 0, none⟩)] #[], .int .i64 n, .int .i64 xs.length] w fun en w' => ∃ A' c', en = .returned (.slice A' 0 c') ∧ At lo hi w' g [] true (fstE e 2) ∧ Upd g w w' := by
    by_cases c1 : n < 0 ∨ (xs.length : Int) < n
    · exact (numbers_neg lo hi g xs s e n xs.length w h c1).mono fun en w' hh => ⟨none, 0, hh⟩
    · obtain ⟨m, rfl⟩ : ∃ m : Nat, n = m := ⟨n.toNat, by omega⟩
      exact numbers_few lo hi g xs s e m xs.length w h (by omega) hl (by rcases hn with h | h | h; exact .inl h; omega; exact .inr (by omega))
  have HN := Aside0.mk hN
  clear hN hn
  obtain ⟨h1, A, c, h2, h3, h4⟩ := h
  obtain ⟨k0, k1, k2, f0, f1, f2⟩ := cells_of h2
  clear h2 h4
  have hu1 := Try.underlying73
  go_enter Try.func42, Try.ntmps42
  go_wp2_with (go_at_call 59; refine HN.out.mono ?_; rintro en w1 ⟨A1, c1, rfl, b3, b4⟩; have N3 := Aside0.mk b3; have N4 := Aside0.mk b4; clear b3 b4 HN)
  go_ret
  exact ⟨A1, c1, rfl, N3.out, N4.out⟩
theorem words_ok (lo hi g : Nat) (xs : List Int) (e : Int) (m : Nat) (w : World) (h : At lo hi w g xs false e) (hs : 2 * m ≤ xs.length) (hl : xs.length ≤ 1000000) (hb : isBytes xs) :
    Calls Try.prog 42 #[.pointer (some ⟨g, 0, none⟩), .int .i64 m] w fun en w' => ∃ A' c', en = .returned (.slice A' (Take.words (xs.take (2 * m))).length c') ∧ (Take.words (xs.take (2 * m))).length ≤ c' ∧ Row16 w.heap.size w'.heap.size w' A' (Take.words (xs.take (2 * m))) ∧ At lo hi w' g (xs.drop (2 * m)) false e ∧ Upd g w w' := by
  have HN := Aside0.mk (numbers_ok lo hi g xs e m xs.length w h (by omega) hl hs hl hb)
  generalize Take.words (xs.take (2 * m)) = ws at *
  obtain ⟨h1, A, c, h2, h3, h4⟩ := h
  obtain ⟨k0, k1, k2, f0, f1, f2⟩ := cells_of h2
  clear h2 h4 hs
  have hu1 := Try.underlying73
  go_enter Try.func42, Try.ntmps42
  go_wp2_with (go_at_call 59; refine HN.out.mono ?_; rintro en w1 ⟨A1, c1, rfl, b1, b2, b3, b4⟩; have N1 := Aside0.mk b1; have N2 := Aside0.mk b2; have N3 := Aside0.mk b3; have N4 := Aside0.mk b4; clear b1 b2 b3 b4 HN)
  go_ret
  exact ⟨A1, c1, rfl, N1.out, N2.out, N3.out, N4.out⟩
theorem words_two (a b : Int) (t : List Int) : Take.words ((a :: b :: t).take (2 * 1)) = [a * 256 + b] := by
  simp [Take.words, Take.pre, Take.wordAt, List.range_succ]
theorem word_ok (lo hi g : Nat) (a b : Int) (xs : List Int) (e : Int) (w : World) (h : At lo hi w g (a :: b :: xs) false e) (hl : (a :: b :: xs).length ≤ 1000000) (hb : isBytes (a :: b :: xs)) :
    Calls Try.prog 39 #[.pointer (some ⟨g, 0, none⟩)] w fun en w' => en = .returned (.int .u16 (a * 256 + b)) ∧ At lo hi w' g xs false e ∧ Upd g w w' := by
  have hB := words_ok lo hi g (a :: b :: xs) e 1 w h (by simp) hl hb
  rw [words_two] at hB
  have HB := Aside0.mk hB
  clear h hB
  go_enter Try.func39, Try.ntmps39
  go_wp2_with (go_at_call 42; refine HB.out.mono ?_; rintro en w1 ⟨A', c', rfl, b1, b2, b3, b4⟩; obtain ⟨ad, rfl, q0⟩ := at_row16 b2 0 (by simp); have N3 := Aside0.mk b3; have N4 := Aside0.mk b4; clear b1 b2 b3 b4 HB)
  have q1 : w1.cell? ad = some (.int .u16 (a * 256 + b)) := by have := q0; rw [Addr.add_zero'] at this; exact this
  clear q0
  go_loopw [8] (fun i wr => i = .int .i64 0 ∧ wr = w1) (fun i _ => 0)
  case atStart => exact ⟨rfl, rfl⟩
  case round =>
    obtain ⟨rfl, rfl⟩ := hrel
    go_wp2
    go_ret
    exact ⟨rfl, N3.out, N4.out⟩
theorem word_short (lo hi g : Nat) (xs : List Int) (s : Bool) (e : Int) (w : World) (h : At lo hi w g xs s e) (hl : xs.length ≤ 1000000) (hs : s = true ∨ xs.length < 2) :
    Calls Try.prog 39 #[.pointer (some ⟨g, 0, none⟩)] w fun en w' => en = .returned (.int .u16 0) ∧ At lo hi w' g [] true (fstE e 2) ∧ Upd g w w' := by
  have HB := Aside0.mk (words_short lo hi g xs s e 1 w h hl (by rcases hs with h | h; exact .inl h; exact .inr (.inr (by omega))))
  clear h
  go_enter Try.func39, Try.ntmps39
  go_wp2_with (go_at_call 42; refine HB.out.mono ?_; rintro en w1 ⟨A', c', rfl, b3, b4⟩; have N3 := Aside0.mk b3; have N4 := Aside0.mk b4; clear b3 b4 HB)
  go_loopw [8] (fun i wr => i = .int .i64 0 ∧ wr = w1) (fun i _ => 0)
  case atStart => exact ⟨rfl, rfl⟩
  case round =>
    obtain ⟨rfl, rfl⟩ := hrel
    go_wp2
    go_ret
    exact ⟨rfl, N3.out, N4.out⟩
end Go.Proofs.Ytalaochocmcbcaa.Cur
end
section
namespace Go.Proofs.Ytalaochocmcbcaa.RCur
open Go.RowKit Go.Proofs.Ytalaochocmcbcaa.P Go.Proofs.Ytalaochocmcbcaa.E Go.Proofs.Ytalaochocmcbcaa.Cur Go.Proofs.YtalaochocmcbcaaW.PrintWords Go.Proofs.YtalaochocmcbcaaW.PrintLast Go.Proofs.YtalaochocmcbcaaW.PrintMore
def RAt (hi : Nat) (w : World) (g : Nat) (xs : List Int) (n : Nat) (s : Bool) (e : Int) : Prop :=
  hi ≤ g ∧ n ≤ xs.length ∧ xs.length ≤ 1000000 ∧ ∃ A c, w.heap[g]? = some (.cells #[.slice A xs.length c, .int .i64 n, .bool s, .int .i64 e] 56 (0, 0)) ∧ xs.length ≤ c ∧ Row 0 hi w A xs
theorem RAt.lt {hi : Nat} {w : World} {g : Nat} {xs : List Int} {n : Nat} {s : Bool} {e : Int} (h : RAt hi w g xs n s e) : g < w.heap.size := by
  obtain ⟨_, _, _, A, c, h1, _⟩ := h
  exact blk_lt h1
theorem RAt.on {hi : Nat} {w w' : World} {g : Nat} {xs : List Int} {n : Nat} {s : Bool} {e : Int} {S : Nat → Prop} (h : RAt hi w g xs n s e) (hk : Kept w w' S) (h1 : ∀ k, S k → hi ≤ k) (h2 : ¬ S g) : RAt hi w' g xs n s e := by
  obtain ⟨h3, h7, h8, A, c, h4, h5, h6⟩ := h
  exact ⟨h3, h7, h8, A, c, blk_kept h4 hk h2, h5, h6.on (hk.mono fun k hk => .inr (h1 k hk))⟩
theorem RAt.below {hi : Nat} {w w' : World} {g : Nat} {xs : List Int} {n : Nat} {s : Bool} {e : Int} (h : RAt hi w g xs n s e) (hb : Below w.heap.size w w') : RAt hi w' g xs n s e :=
  h.on (Kept.of_below hb (fun _ => False)) (fun _ h => h.elim) (fun h => h)
theorem cells4 {w : World} {g : Nat} {t : TypeId} {v0 v1 v2 v3 : Value} (h : w.heap[g]? = some (.cells #[v0, v1, v2, v3] t (0, 0))) : (w.cell? ⟨g, 0, none⟩ = some v0 ∧ w.cell? ⟨g, 1, none⟩ = some v1 ∧ w.cell? ⟨g, 2, none⟩ = some v2 ∧ w.cell? ⟨g, 3, none⟩ = some v3) ∧ w.frozen? ⟨g, 0, none⟩ = false ∧ w.frozen? ⟨g, 1, none⟩ = false ∧ w.frozen? ⟨g, 2, none⟩ = false ∧ w.frozen? ⟨g, 3, none⟩ = false :=
  ⟨⟨blk_cell h 0, blk_cell h 1, blk_cell h 2, blk_cell h 3⟩, blk_frozen h 0, blk_frozen h 1, blk_frozen h 2, blk_frozen h 3⟩
def bm (n m : Nat) : Array Bool := ⟨(List.range n).map fun i => m.testBit i⟩
theorem need_set (hi g : Nat) (xs : List Int) (n : Nat) (s : Bool) (f : Int) (w : World) (h : RAt hi w g xs n s 0) :
    Calls Try.prog 26 #[.pointer (some ⟨g, 0, none⟩), .bool false, .int .i64 f] w fun en w' => en = .returned (.tuple #[]) ∧ RAt hi w' g xs n s f ∧ Upd g w w' := by
  obtain ⟨h1, hn, hx, A, c, h2, h3, h4⟩ := h
  obtain ⟨⟨k0, k1, k2, k3⟩, f0, f1, f2, f3⟩ := cells4 h2
  have H2 := Aside0.mk h2
  have H4 := Aside0.mk h4
  clear h2 h4
  have hu1 := Try.underlying56
  go_enter Try.func26, Try.ntmps26
  go_wp2
  first
  | exact bodyPost_end (results_none rfl _ _ _) rfl ⟨rfl, ⟨h1, hn, hx, A, c, blk_put H2.out 3 _ rfl, h3, H4.out.on ((Upd.set w g 3 _).kept.mono (fun k hk => .inr (by omega)))⟩, Upd.set _ _ _ _⟩
  | exact bodyPost_ret (results_none rfl _ _ _) rfl ⟨rfl, ⟨h1, hn, hx, A, c, blk_put H2.out 3 _ rfl, h3, H4.out.on ((Upd.set w g 3 _).kept.mono (fun k hk => .inr (by omega)))⟩, Upd.set _ _ _ _⟩
theorem need_met (hi g : Nat) (xs : List Int) (n : Nat) (s : Bool) (e : Int) (w : World) (h : RAt hi w g xs n s e) (f : Int) :
    Calls Try.prog 26 #[.pointer (some ⟨g, 0, none⟩), .bool true, .int .i64 f] w fun en w' => en = .returned (.tuple #[]) ∧ RAt hi w' g xs n s e ∧ Upd g w w' := by
  obtain ⟨h1, hn, hx, A, c, h2, h3, h4⟩ := h
  obtain ⟨⟨k0, k1, k2, k3⟩, f0, f1, f2, f3⟩ := cells4 h2
  have H2 := Aside0.mk h2
  have H4 := Aside0.mk h4
  clear h2 h4
  have hu1 := Try.underlying56
  go_enter Try.func26, Try.ntmps26
  go_wp2
  exact bodyPost_ret (results_none rfl _ _ _) rfl ⟨rfl, ⟨h1, hn, hx, A, c, H2.out, h3, H4.out⟩, Upd.refl _ _⟩
theorem need_keep (hi g : Nat) (xs : List Int) (n : Nat) (s : Bool) (e : Int) (w : World) (h : RAt hi w g xs n s e) (f : Int) (he : e ≠ 0) :
    Calls Try.prog 26 #[.pointer (some ⟨g, 0, none⟩), .bool false, .int .i64 f] w fun en w' => en = .returned (.tuple #[]) ∧ RAt hi w' g xs n s e ∧ Upd g w w' := by
  have e1 : (e == 0) = false := beq_eq_false_iff_ne.2 he
  have e2 : (e != 0) = true := bne_iff_ne.2 he
  clear he
  obtain ⟨h1, hn, hx, A, c, h2, h3, h4⟩ := h
  obtain ⟨⟨k0, k1, k2, k3⟩, f0, f1, f2, f3⟩ := cells4 h2
  have H2 := Aside0.mk h2
  have H4 := Aside0.mk h4
  clear h2 h4
  have hu1 := Try.underlying56
  go_enter Try.func26, Try.ntmps26
  go_wp2
  exact bodyPost_ret (results_none rfl _ _ _) rfl ⟨rfl, ⟨h1, hn, hx, A, c, H2.out, h3, H4.out⟩, Upd.refl _ _⟩
theorem need_any (hi g : Nat) (xs : List Int) (n : Nat) (s : Bool) (e : Int) (w : World) (h : RAt hi w g xs n s e) (f : Int) :
    Calls Try.prog 26 #[.pointer (some ⟨g, 0, none⟩), .bool false, .int .i64 f] w fun en w' => en = .returned (.tuple #[]) ∧ RAt hi w' g xs n s (fstE e f) ∧ Upd g w w' := by
  by_cases he : e = 0
  · subst he
    exact need_set hi g xs n s f w h
  · have := need_keep hi g xs n s e w h f he
    rw [show fstE e f = e from if_neg he]
    exact this
def rleft.T1 : Bool × List (List Nat × List Nat) := (true, [([], []), ([0], [0]), ([1], [1]), ([2], [2]), ([3], [3]), ([], []), ([5], [5]), ([6], [6]), ([7], [7]), ([4, 8], [4, 8]), ([9, 0, 1, 2, 3, 4, 5, 6, 7, 8, 9], [9])])
def rleft.B1 : List Nat := [0, 1, 3, 7, 15, 0, 32, 96, 224, 511, 1023]
theorem rleft.tab1 : rtab .any (opsOf Try.f27 1) = rleft.T1 := by kernel_rfl
theorem rleft.bits1 : waitsOk rleft.T1.2 rleft.B1 = true := by kernel_rfl
theorem left_any (hi g : Nat) (xs : List Int) (n : Nat) (s : Bool) (e : Int) (w : World) (h : RAt hi w g xs n s e) :
    Calls Try.prog 27 #[.pointer (some ⟨g, 0, none⟩)] w fun en w' => en = .returned (.int .i64 ((xs.length : Int) - n)) ∧ RAt hi w' g xs n s e ∧ Upd g w w' := by
  obtain ⟨h1, hn, hx, A, c, h2, h3, h4⟩ := h
  obtain ⟨⟨k0, k1, k2, k3⟩, f0, f1, f2, f3⟩ := cells4 h2
  have H2 := Aside0.mk h2
  have H4 := Aside0.mk h4
  clear h2 h4
  have hu1 := Try.underlying56
  have c1 : wrap64 ((xs.length : Int) - (n : Int)) = (xs.length : Int) - (n : Int) := wrap64_id (by omega) (by omega)
  go_enter Try.func27, Try.ntmps27
  go_wp2
  refine start_ (n := 11) (S := fun w' => w'.cell? ⟨g, 0, none⟩ = some (.slice A xs.length c) ∧ w'.cell? ⟨g, 1, none⟩ = some (.int .i64 n) ∧ w'.cell? ⟨g, 2, none⟩ = some (.bool s) ∧ Aside0 (w'.heap[g]? = some (.cells #[.slice A xs.length c, .int .i64 n, .bool s, .int .i64 e] 56 (0, 0))) ∧ Aside0 (Upd g w w')) (ds := []) (bm 11 0) (by as_aux_lemma => kernel_rfl) rfl (by as_aux_lemma => kernel_rfl) ⟨k0, k1, k2, (Aside0.mk H2.out), (Aside0.mk ⟨rfl, rfl, rfl, (Kept.refl _ _).drew⟩)⟩ (fun hHeld => ?_)
  refine with_tabW rleft.tab1 rleft.bits1 (fun HT_ HW_ => ?_)
  refine pure_ (i := 0) (N := some 3) (v := ?_) (a' := ?_) (bm 11 1) rfl rfl (any_of HT_.out (by as_aux_lemma => kernel_rfl)) (fun _ _ _ h => h) (Or.inl ⟨by rfl, ?_⟩) ?_ ?_
  rotate_left
  · intro w'
    go_simp
    with_reducible rfl
  rotate_left
  · simp only [Act.put, List.setIfInBounds_toArray, List.set_cons_zero, List.set_cons_succ, i64_w, i32_w]
    rfl
  refine pure_ (i := 1) (N := some 4) (v := ?_) (a' := ?_) (bm 11 3) rfl rfl (any_of HT_.out (by as_aux_lemma => kernel_rfl)) (fun _ _ _ h => h) (Or.inl ⟨by rfl, ?_⟩) ?_ ?_
  rotate_left
  · intro w'
    go_simp
    with_reducible rfl
  rotate_left
  · simp only [Act.put, List.setIfInBounds_toArray, List.set_cons_zero, List.set_cons_succ, i64_w, i32_w]
    rfl
  refine pure_ (i := 2) (N := some 5) (v := ?_) (a' := ?_) (bm 11 7) rfl rfl (any_of HT_.out (by as_aux_lemma => kernel_rfl)) (fun _ _ _ h => h) (Or.inl ⟨by rfl, ?_⟩) ?_ ?_
  rotate_left
  · intro w'
    go_simp
    with_reducible rfl
  rotate_left
  · simp only [Act.put, List.setIfInBounds_toArray, List.set_cons_zero, List.set_cons_succ, i64_w, i32_w]
    rfl
  refine pure_ (i := 5) (N := some 8) (v := ?_) (a' := ?_) (bm 11 39) rfl rfl (any_of HT_.out (by as_aux_lemma => kernel_rfl)) (fun _ _ _ h => h) (Or.inl ⟨by rfl, ?_⟩) ?_ ?_
  rotate_left
  · intro w'
    go_simp
    with_reducible rfl
  rotate_left
  · simp only [Act.put, List.setIfInBounds_toArray, List.set_cons_zero, List.set_cons_succ, i64_w, i32_w]
    rfl
  refine pure_ (i := 6) (N := some 9) (v := ?_) (a' := ?_) (bm 11 103) rfl rfl (any_of HT_.out (by as_aux_lemma => kernel_rfl)) (fun _ _ _ h => h) (Or.inl ⟨by rfl, ?_⟩) ?_ ?_
  rotate_left
  · intro w'
    go_simp
    with_reducible rfl
  rotate_left
  · simp only [Act.put, List.setIfInBounds_toArray, List.set_cons_zero, List.set_cons_succ, i64_w, i32_w]
    rfl
  refine pure_ (i := 7) (N := some 10) (v := ?_) (a' := ?_) (bm 11 231) rfl rfl (any_of HT_.out (by as_aux_lemma => kernel_rfl)) (fun _ _ _ h => h) (Or.inl ⟨by rfl, ?_⟩) ?_ ?_
  rotate_left
  · intro w'
    go_simp
    with_reducible rfl
  rotate_left
  · simp only [Act.put, List.setIfInBounds_toArray, List.set_cons_zero, List.set_cons_succ, i64_w, i32_w]
    rfl
  refine take_ (i := 3) (N := some 6) (v := ?_) (a' := ?_) (bm 11 239) rfl rfl (take_ofW HT_.out HW_.out (by as_aux_lemma => kernel_rfl)) (fun _ _ _ h => h) (Or.inl ⟨by rfl, ?_⟩) hHeld ?_ ?_
  rotate_left
  · rintro w' ⟨s0, s1, s2, s3, s4⟩
    go_simp
    with_reducible rfl
  rotate_left
  · simp only [Act.put, List.setIfInBounds_toArray, List.set_cons_zero, List.set_cons_succ, i64_w, i32_w]
    rfl
  refine pure_ (i := 4) (N := some 7) (v := ?_) (a' := ?_) (bm 11 255) rfl rfl (any_of HT_.out (by as_aux_lemma => kernel_rfl)) (fun _ _ _ h => h) (Or.inl ⟨by rfl, ?_⟩) ?_ ?_
  rotate_left
  · intro w'
    go_simp
    with_reducible rfl
  rotate_left
  · simp only [Act.put, List.setIfInBounds_toArray, List.set_cons_zero, List.set_cons_succ, i64_w, i32_w]
    rfl
  refine take_ (i := 8) (N := some 11) (v := ?_) (a' := ?_) (bm 11 511) rfl rfl (take_ofW HT_.out HW_.out (by as_aux_lemma => kernel_rfl)) (fun _ _ _ h => h) (Or.inl ⟨by rfl, ?_⟩) hHeld ?_ ?_
  rotate_left
  · rintro w' ⟨s0, s1, s2, s3, s4⟩
    go_simp
    with_reducible rfl
  rotate_left
  · simp only [Act.put, List.setIfInBounds_toArray, List.set_cons_zero, List.set_cons_succ, i64_w, i32_w]
    rfl
  refine pure_ (i := 9) (N := some 12) (v := ?_) (a' := ?_) (bm 11 1023) rfl rfl (any_of HT_.out (by as_aux_lemma => kernel_rfl)) (fun _ _ _ h => h) (Or.inl ⟨by rfl, ?_⟩) ?_ ?_
  rotate_left
  · intro w'
    go_simp
    with_reducible rfl
  rotate_left
  · simp only [Act.put, List.setIfInBounds_toArray, List.set_cons_zero, List.set_cons_succ, i64_w, i32_w]
    rfl
  refine pure_ (i := 10) (N := some 2) (v := ?_) (a' := ?_) (bm 11 2047) rfl rfl (any_of HT_.out (by as_aux_lemma => kernel_rfl)) (fun _ _ _ h => h) (Or.inl ⟨by rfl, ?_⟩) ?_ ?_
  rotate_left
  · intro w'
    go_simp
    with_reducible rfl
  rotate_left
  · simp only [Act.put, List.setIfInBounds_toArray, List.set_cons_zero, List.set_cons_succ, i64_w, i32_w]
    rfl
  refine done_ (done_of HT_.out (by as_aux_lemma => kernel_rfl)) ?_
  go_wp2
  go_ret
  exact ⟨rfl, ⟨h1, hn, hx, A, c, hHeld.2.2.2.1.out, h3, H4.out.on (hHeld.2.2.2.2.out.kept.mono (fun k hk => .inr (by omega)))⟩, hHeld.2.2.2.2.out⟩
def rbytes.T1 : Bool × List (List Nat × List Nat) := (true, [([], []), ([0], [0]), ([1], [1]), ([2], [2]), ([3], [3]), ([4], [4]), ([5, 4], [4, 5]), ([4, 6], [4, 6]), ([7, 4], [7]), ([8], [8]), ([8], [8]), ([10, 8], [8, 10]), ([11, 8], [8, 11]), ([12, 8], [8, 12]), ([13, 8], [8, 13]), ([8], [8]), ([15, 8], [8, 15]), ([16, 8], [8, 16]), ([17, 8], [8, 17]), ([14, 18, 8], [8, 14, 18]), ([9, 19, 8], [8, 9, 19]), ([8, 20], [8, 20])])
def rbytes.B1 : List Nat := [0, 1, 3, 7, 15, 31, 63, 127, 255, 511, 511, 1535, 3583, 7679, 15871, 511, 33279, 98815, 229887, 523775, 1048575, 2097151]
theorem rbytes.tab1 : rtab .any (opsOf Try.f31 1) = rbytes.T1 := by kernel_rfl
theorem rbytes.bits1 : waitsOk rbytes.T1.2 rbytes.B1 = true := by kernel_rfl
def rbytes.T7 : Bool × List (List Nat × List Nat) := (true, [([], []), ([0], [0]), ([1], [1]), ([2], [2]), ([], []), ([4], [4]), ([5], [5]), ([6], [6]), ([], []), ([7, 8], [7, 8]), ([], []), ([10], [10]), ([11], [11]), ([12], [12]), ([3, 9, 13], [3, 9, 13]), ([14, 0, 1, 2, 3, 4, 5, 6, 7, 8, 9, 10, 11, 12, 13, 14], [14])])
def rbytes.B7 : List Nat := [0, 1, 3, 7, 0, 16, 48, 112, 0, 496, 0, 1024, 3072, 7168, 16383, 32767]
theorem rbytes.tab7 : rtab .any (opsOf Try.f31 7) = rbytes.T7 := by kernel_rfl
theorem rbytes.bits7 : waitsOk rbytes.T7.2 rbytes.B7 = true := by kernel_rfl
theorem bytes_s (hi g : Nat) (xs : List Int) (n : Nat) (e m : Int) (w : World) (h : RAt hi w g xs n true e)  :
    Calls Try.prog 31 #[.pointer (some ⟨g, 0, none⟩), .int .i64 m] w fun en w' => en = .returned (.slice none 0 0) ∧ RAt hi w' g xs xs.length true (fstE e 2) ∧ Upd g w w' := by
  obtain ⟨h1, hn, hx, A, c, h2, h3, h4⟩ := h
  obtain ⟨⟨k0, k1, k2, k3⟩, f0, f1, f2, f3⟩ := cells4 h2
  have H2 := Aside0.mk h2
  have H4 := Aside0.mk h4
  clear h2 h4
  have hu1 := Try.underlying56
  have c1 : wrap64 ((xs.length : Int) - (n : Int)) = (xs.length : Int) - (n : Int) := wrap64_id (by omega) (by omega)
  have FIN := Aside0.mk (fun (W : World) (hW : RAt hi W g xs xs.length true e) => need_any hi g xs xs.length true e W hW 2)
  go_enter Try.func31, Try.ntmps31
  go_wp2
  refine start_ (n := 22) (S := fun w' => w'.cell? ⟨g, 0, none⟩ = some (.slice A xs.length c) ∧ w'.cell? ⟨g, 1, none⟩ = some (.int .i64 n) ∧ w'.cell? ⟨g, 2, none⟩ = some (.bool true) ∧ Aside0 (w'.heap[g]? = some (.cells #[.slice A xs.length c, .int .i64 n, .bool true, .int .i64 e] 56 (0, 0))) ∧ Aside0 (Upd g w w')) (ds := []) (bm 22 0) (by as_aux_lemma => kernel_rfl) rfl (by as_aux_lemma => kernel_rfl) ⟨k0, k1, k2, (Aside0.mk H2.out), (Aside0.mk ⟨rfl, rfl, rfl, (Kept.refl _ _).drew⟩)⟩ (fun hHeld => ?_)
  refine with_tabW rbytes.tab1 rbytes.bits1 (fun HT_ HW_ => ?_)
  refine pure_ (i := 0) (N := some 5) (v := ?_) (a' := ?_) (bm 22 1) rfl rfl (any_of HT_.out (by as_aux_lemma => kernel_rfl)) (fun _ _ _ h => h) (Or.inl ⟨by rfl, ?_⟩) ?_ ?_
  rotate_left
  · intro w'
    go_simp
    with_reducible rfl
  rotate_left
  · simp only [Act.put, List.setIfInBounds_toArray, List.set_cons_zero, List.set_cons_succ, i64_w, i32_w]
    rfl
  refine pure_ (i := 1) (N := some 6) (v := ?_) (a' := ?_) (bm 22 3) rfl rfl (any_of HT_.out (by as_aux_lemma => kernel_rfl)) (fun _ _ _ h => h) (Or.inl ⟨by rfl, ?_⟩) ?_ ?_
  rotate_left
  · intro w'
    go_simp
    with_reducible rfl
  rotate_left
  · simp only [Act.put, List.setIfInBounds_toArray, List.set_cons_zero, List.set_cons_succ, i64_w, i32_w]
    rfl
  refine pure_ (i := 2) (N := some 7) (v := ?_) (a' := ?_) (bm 22 7) rfl rfl (any_of HT_.out (by as_aux_lemma => kernel_rfl)) (fun _ _ _ h => h) (Or.inl ⟨by rfl, ?_⟩) ?_ ?_
  rotate_left
  · intro w'
    go_simp
    with_reducible rfl
  rotate_left
  · simp only [Act.put, List.setIfInBounds_toArray, List.set_cons_zero, List.set_cons_succ, i64_w, i32_w]
    rfl
  refine take_ (i := 3) (N := some 8) (v := ?_) (a' := ?_) (bm 22 15) rfl rfl (take_ofW HT_.out HW_.out (by as_aux_lemma => kernel_rfl)) (fun _ _ _ h => h) (Or.inl ⟨by rfl, ?_⟩) hHeld ?_ ?_
  rotate_left
  · rintro w' ⟨s0, s1, s2, s3, s4⟩
    go_simp
    with_reducible rfl
  rotate_left
  · simp only [Act.put, List.setIfInBounds_toArray, List.set_cons_zero, List.set_cons_succ, i64_w, i32_w]
    rfl
  refine pure_ (i := 4) (N := some 9) (v := ?_) (a' := ?_) (bm 22 31) rfl rfl (any_of HT_.out (by as_aux_lemma => kernel_rfl)) (fun _ _ _ h => h) (Or.inl ⟨by rfl, ?_⟩) ?_ ?_
  rotate_left
  · intro w'
    go_simp
    with_reducible rfl
  rotate_left
  · simp only [Act.put, List.setIfInBounds_toArray, List.set_cons_zero, List.set_cons_succ, i64_w, i32_w]
    rfl
  refine pure_ (i := 5) (N := some 10) (v := undef) (a' := ?_) (bm 22 63) rfl rfl (any_of HT_.out (by as_aux_lemma => kernel_rfl)) (fun _ _ _ h => h) (Or.inr ⟨by rfl, rfl⟩) ?_ ?_
  rotate_left
  · simp only [Act.put, List.setIfInBounds_toArray, List.set_cons_zero, List.set_cons_succ, i64_w, i32_w]
    rfl
  refine pure_ (i := 6) (N := some 11) (v := undef) (a' := ?_) (bm 22 127) rfl rfl (any_of HT_.out (by as_aux_lemma => kernel_rfl)) (fun _ _ _ h => h) (Or.inr ⟨by rfl, rfl⟩) ?_ ?_
  rotate_left
  · simp only [Act.put, List.setIfInBounds_toArray, List.set_cons_zero, List.set_cons_succ, i64_w, i32_w]
    rfl
  refine pure_ (i := 7) (N := some 12) (v := ?_) (a' := ?_) (bm 22 255) rfl rfl (any_of HT_.out (by as_aux_lemma => kernel_rfl)) (fun _ _ _ h => h) (Or.inl ⟨by rfl, ?_⟩) ?_ ?_
  rotate_left
  · intro w'
    go_simp
    with_reducible rfl
  rotate_left
  · simp only [Act.put, List.setIfInBounds_toArray, List.set_cons_zero, List.set_cons_succ, i64_w, i32_w]
    rfl
  refine pure_ (i := 8) (N := some 13) (v := ?_) (a' := ?_) (bm 22 511) rfl rfl (any_of HT_.out (by as_aux_lemma => kernel_rfl)) (fun _ _ _ h => h) (Or.inl ⟨by rfl, ?_⟩) ?_ ?_
  rotate_left
  · intro w'
    go_simp
    with_reducible rfl
  rotate_left
  · simp only [Act.put, List.setIfInBounds_toArray, List.set_cons_zero, List.set_cons_succ, i64_w, i32_w]
    rfl
  refine pure_ (i := 9) (N := some 14) (v := undef) (a' := ?_) (bm 22 1023) rfl rfl (any_of HT_.out (by as_aux_lemma => kernel_rfl)) (fun _ _ _ h => h) (Or.inr ⟨by rfl, rfl⟩) ?_ ?_
  rotate_left
  · simp only [Act.put, List.setIfInBounds_toArray, List.set_cons_zero, List.set_cons_succ, i64_w, i32_w]
    rfl
  refine pure_ (i := 10) (N := some 15) (v := undef) (a' := ?_) (bm 22 2047) rfl rfl (any_of HT_.out (by as_aux_lemma => kernel_rfl)) (fun _ _ _ h => h) (Or.inr ⟨by rfl, rfl⟩) ?_ ?_
  rotate_left
  · simp only [Act.put, List.setIfInBounds_toArray, List.set_cons_zero, List.set_cons_succ, i64_w, i32_w]
    rfl
  refine pure_ (i := 11) (N := some 16) (v := undef) (a' := ?_) (bm 22 4095) rfl rfl (any_of HT_.out (by as_aux_lemma => kernel_rfl)) (fun _ _ _ h => h) (Or.inr ⟨by rfl, rfl⟩) ?_ ?_
  rotate_left
  · simp only [Act.put, List.setIfInBounds_toArray, List.set_cons_zero, List.set_cons_succ, i64_w, i32_w]
    rfl
  refine pure_ (i := 12) (N := some 17) (v := undef) (a' := ?_) (bm 22 8191) rfl rfl (any_of HT_.out (by as_aux_lemma => kernel_rfl)) (fun _ _ _ h => h) (Or.inr ⟨by rfl, rfl⟩) ?_ ?_
  rotate_left
  · simp only [Act.put, List.setIfInBounds_toArray, List.set_cons_zero, List.set_cons_succ, i64_w, i32_w]
    rfl
  refine pure_ (i := 13) (N := some 18) (v := undef) (a' := ?_) (bm 22 16383) rfl rfl (any_of HT_.out (by as_aux_lemma => kernel_rfl)) (fun _ _ _ h => h) (Or.inr ⟨by rfl, rfl⟩) ?_ ?_
  rotate_left
  · simp only [Act.put, List.setIfInBounds_toArray, List.set_cons_zero, List.set_cons_succ, i64_w, i32_w]
    rfl
  refine pure_ (i := 14) (N := some 19) (v := undef) (a' := ?_) (bm 22 32767) rfl rfl (any_of HT_.out (by as_aux_lemma => kernel_rfl)) (fun _ _ _ h => h) (Or.inr ⟨by rfl, rfl⟩) ?_ ?_
  rotate_left
  · simp only [Act.put, List.setIfInBounds_toArray, List.set_cons_zero, List.set_cons_succ, i64_w, i32_w]
    rfl
  refine pure_ (i := 15) (N := some 20) (v := undef) (a' := ?_) (bm 22 65535) rfl rfl (any_of HT_.out (by as_aux_lemma => kernel_rfl)) (fun _ _ _ h => h) (Or.inr ⟨by rfl, rfl⟩) ?_ ?_
  rotate_left
  · simp only [Act.put, List.setIfInBounds_toArray, List.set_cons_zero, List.set_cons_succ, i64_w, i32_w]
    rfl
  refine pure_ (i := 16) (N := some 21) (v := undef) (a' := ?_) (bm 22 131071) rfl rfl (any_of HT_.out (by as_aux_lemma => kernel_rfl)) (fun _ _ _ h => h) (Or.inr ⟨by rfl, rfl⟩) ?_ ?_
  rotate_left
  · simp only [Act.put, List.setIfInBounds_toArray, List.set_cons_zero, List.set_cons_succ, i64_w, i32_w]
    rfl
  refine pure_ (i := 17) (N := some 22) (v := undef) (a' := ?_) (bm 22 262143) rfl rfl (any_of HT_.out (by as_aux_lemma => kernel_rfl)) (fun _ _ _ h => h) (Or.inr ⟨by rfl, rfl⟩) ?_ ?_
  rotate_left
  · simp only [Act.put, List.setIfInBounds_toArray, List.set_cons_zero, List.set_cons_succ, i64_w, i32_w]
    rfl
  refine pure_ (i := 18) (N := some 23) (v := undef) (a' := ?_) (bm 22 524287) rfl rfl (any_of HT_.out (by as_aux_lemma => kernel_rfl)) (fun _ _ _ h => h) (Or.inr ⟨by rfl, rfl⟩) ?_ ?_
  rotate_left
  · simp only [Act.put, List.setIfInBounds_toArray, List.set_cons_zero, List.set_cons_succ, i64_w, i32_w]
    rfl
  refine pure_ (i := 19) (N := some 24) (v := undef) (a' := ?_) (bm 22 1048575) rfl rfl (any_of HT_.out (by as_aux_lemma => kernel_rfl)) (fun _ _ _ h => h) (Or.inr ⟨by rfl, rfl⟩) ?_ ?_
  rotate_left
  · simp only [Act.put, List.setIfInBounds_toArray, List.set_cons_zero, List.set_cons_succ, i64_w, i32_w]
    rfl
  refine pure_ (i := 20) (N := some 25) (v := undef) (a' := ?_) (bm 22 2097151) rfl rfl (any_of HT_.out (by as_aux_lemma => kernel_rfl)) (fun _ _ _ h => h) (Or.inr ⟨by rfl, rfl⟩) ?_ ?_
  rotate_left
  · simp only [Act.put, List.setIfInBounds_toArray, List.set_cons_zero, List.set_cons_succ, i64_w, i32_w]
    rfl
  refine pure_ (i := 21) (N := some 26) (v := ?_) (a' := ?_) (bm 22 4194303) rfl rfl (any_of HT_.out (by as_aux_lemma => kernel_rfl)) (fun _ _ _ h => h) (Or.inl ⟨by rfl, ?_⟩) ?_ ?_
  rotate_left
  · intro w'
    go_simp
    with_reducible rfl
  rotate_left
  · simp only [Act.put, List.setIfInBounds_toArray, List.set_cons_zero, List.set_cons_succ, i64_w, i32_w]
    rfl
  refine done_ (done_of HT_.out (by as_aux_lemma => kernel_rfl)) ?_
  have hb := hHeld.2.2.2.1.out
  have hU := hHeld.2.2.2.2.out
  obtain ⟨⟨q0, q1, q2, q3⟩, p0, p1, p2, p3⟩ := cells4 hb
  clear hHeld
  generalize World.drew w = wd at *
  have HS := Aside0.mk (fun (W : World) (hW : W = (wd.setCell ⟨g, 2, none⟩ (.bool true)).setCell ⟨g, 1, none⟩ (.int .i64 xs.length)) => (by
    subst hW
    exact ⟨h1, Nat.le_refl _, hx, A, c, blk_put (blk_put hb 2 _ rfl) 1 _ rfl, h3, H4.out.on ((hU.trans ((Upd.set _ _ _ _).trans (Upd.set _ _ _ _))).kept.mono (fun k hk => .inr (by omega)))⟩ : RAt hi W g xs xs.length true e))
  have HU := Aside0.mk (hU.trans ((Upd.set wd g 2 (.bool true)).trans (Upd.set _ g 1 (.int .i64 xs.length))))
  clear hb hU
  go_wp2_with (go_at_call 26; refine (FIN.out _ ?hw).mono ?_; (case hw => exact HS.out _ rfl); rintro en w2 ⟨rfl, b1, b2⟩; have N1 := Aside0.mk b1; have N2 := Aside0.mk b2; clear b1 b2)
  go_ret
  exact ⟨rfl, N1.out, HU.out.trans N2.out⟩
theorem bytes_neg (hi g : Nat) (xs : List Int) (n : Nat) (e m : Int) (w : World) (h : RAt hi w g xs n false e) (hm : m < 0) :
    Calls Try.prog 31 #[.pointer (some ⟨g, 0, none⟩), .int .i64 m] w fun en w' => en = .returned (.slice none 0 0) ∧ RAt hi w' g xs xs.length true (fstE e 2) ∧ Upd g w w' := by
  obtain ⟨h1, hn, hx, A, c, h2, h3, h4⟩ := h
  obtain ⟨⟨k0, k1, k2, k3⟩, f0, f1, f2, f3⟩ := cells4 h2
  have H2 := Aside0.mk h2
  have H4 := Aside0.mk h4
  clear h2 h4
  have hu1 := Try.underlying56
  have d1 : decide (m < 0) = true := decide_eq_true hm
  have c1 : wrap64 ((xs.length : Int) - (n : Int)) = (xs.length : Int) - (n : Int) := wrap64_id (by omega) (by omega)
  have FIN := Aside0.mk (fun (W : World) (hW : RAt hi W g xs xs.length true e) => need_any hi g xs xs.length true e W hW 2)
  go_enter Try.func31, Try.ntmps31
  go_wp2
  refine start_ (n := 22) (S := fun w' => w'.cell? ⟨g, 0, none⟩ = some (.slice A xs.length c) ∧ w'.cell? ⟨g, 1, none⟩ = some (.int .i64 n) ∧ w'.cell? ⟨g, 2, none⟩ = some (.bool false) ∧ Aside0 (w'.heap[g]? = some (.cells #[.slice A xs.length c, .int .i64 n, .bool false, .int .i64 e] 56 (0, 0))) ∧ Aside0 (Upd g w w')) (ds := []) (bm 22 0) (by as_aux_lemma => kernel_rfl) rfl (by as_aux_lemma => kernel_rfl) ⟨k0, k1, k2, (Aside0.mk H2.out), (Aside0.mk ⟨rfl, rfl, rfl, (Kept.refl _ _).drew⟩)⟩ (fun hHeld => ?_)
  refine with_tabW rbytes.tab1 rbytes.bits1 (fun HT_ HW_ => ?_)
  refine pure_ (i := 0) (N := some 5) (v := ?_) (a' := ?_) (bm 22 1) rfl rfl (any_of HT_.out (by as_aux_lemma => kernel_rfl)) (fun _ _ _ h => h) (Or.inl ⟨by rfl, ?_⟩) ?_ ?_
  rotate_left
  · intro w'
    go_simp
    with_reducible rfl
  rotate_left
  · simp only [Act.put, List.setIfInBounds_toArray, List.set_cons_zero, List.set_cons_succ, i64_w, i32_w]
    rfl
  refine pure_ (i := 1) (N := some 6) (v := ?_) (a' := ?_) (bm 22 3) rfl rfl (any_of HT_.out (by as_aux_lemma => kernel_rfl)) (fun _ _ _ h => h) (Or.inl ⟨by rfl, ?_⟩) ?_ ?_
  rotate_left
  · intro w'
    go_simp
    with_reducible rfl
  rotate_left
  · simp only [Act.put, List.setIfInBounds_toArray, List.set_cons_zero, List.set_cons_succ, i64_w, i32_w]
    rfl
  refine pure_ (i := 2) (N := some 7) (v := ?_) (a' := ?_) (bm 22 7) rfl rfl (any_of HT_.out (by as_aux_lemma => kernel_rfl)) (fun _ _ _ h => h) (Or.inl ⟨by rfl, ?_⟩) ?_ ?_
  rotate_left
  · intro w'
    go_simp
    with_reducible rfl
  rotate_left
  · simp only [Act.put, List.setIfInBounds_toArray, List.set_cons_zero, List.set_cons_succ, i64_w, i32_w]
    rfl
  refine take_ (i := 3) (N := some 8) (v := ?_) (a' := ?_) (bm 22 15) rfl rfl (take_ofW HT_.out HW_.out (by as_aux_lemma => kernel_rfl)) (fun _ _ _ h => h) (Or.inl ⟨by rfl, ?_⟩) hHeld ?_ ?_
  rotate_left
  · rintro w' ⟨s0, s1, s2, s3, s4⟩
    go_simp
    with_reducible rfl
  rotate_left
  · simp only [Act.put, List.setIfInBounds_toArray, List.set_cons_zero, List.set_cons_succ, i64_w, i32_w]
    rfl
  refine pure_ (i := 4) (N := some 9) (v := ?_) (a' := ?_) (bm 22 31) rfl rfl (any_of HT_.out (by as_aux_lemma => kernel_rfl)) (fun _ _ _ h => h) (Or.inl ⟨by rfl, ?_⟩) ?_ ?_
  rotate_left
  · intro w'
    go_simp
    with_reducible rfl
  rotate_left
  · simp only [Act.put, List.setIfInBounds_toArray, List.set_cons_zero, List.set_cons_succ, i64_w, i32_w]
    rfl
  refine pure_ (i := 5) (N := some 10) (v := ?_) (a' := ?_) (bm 22 63) rfl rfl (any_of HT_.out (by as_aux_lemma => kernel_rfl)) (fun _ _ _ h => h) (Or.inl ⟨by rfl, ?_⟩) ?_ ?_
  rotate_left
  · intro w'
    go_simp
    with_reducible rfl
  rotate_left
  · simp only [Act.put, List.setIfInBounds_toArray, List.set_cons_zero, List.set_cons_succ, i64_w, i32_w]
    rfl
  refine pure_ (i := 6) (N := some 11) (v := ?_) (a' := ?_) (bm 22 127) rfl rfl (any_of HT_.out (by as_aux_lemma => kernel_rfl)) (fun _ _ _ h => h) (Or.inl ⟨by rfl, ?_⟩) ?_ ?_
  rotate_left
  · intro w'
    go_simp
    with_reducible rfl
  rotate_left
  · simp only [Act.put, List.setIfInBounds_toArray, List.set_cons_zero, List.set_cons_succ, i64_w, i32_w]
    rfl
  refine pure_ (i := 7) (N := some 12) (v := ?_) (a' := ?_) (bm 22 255) rfl rfl (any_of HT_.out (by as_aux_lemma => kernel_rfl)) (fun _ _ _ h => h) (Or.inl ⟨by rfl, ?_⟩) ?_ ?_
  rotate_left
  · intro w'
    go_simp
    with_reducible rfl
  rotate_left
  · simp only [Act.put, List.setIfInBounds_toArray, List.set_cons_zero, List.set_cons_succ, i64_w, i32_w]
    rfl
  refine pure_ (i := 8) (N := some 13) (v := ?_) (a' := ?_) (bm 22 511) rfl rfl (any_of HT_.out (by as_aux_lemma => kernel_rfl)) (fun _ _ _ h => h) (Or.inl ⟨by rfl, ?_⟩) ?_ ?_
  rotate_left
  · intro w'
    go_simp
    with_reducible rfl
  rotate_left
  · simp only [Act.put, List.setIfInBounds_toArray, List.set_cons_zero, List.set_cons_succ, i64_w, i32_w]
    rfl
  refine pure_ (i := 9) (N := some 14) (v := undef) (a' := ?_) (bm 22 1023) rfl rfl (any_of HT_.out (by as_aux_lemma => kernel_rfl)) (fun _ _ _ h => h) (Or.inr ⟨by rfl, rfl⟩) ?_ ?_
  rotate_left
  · simp only [Act.put, List.setIfInBounds_toArray, List.set_cons_zero, List.set_cons_succ, i64_w, i32_w]
    rfl
  refine pure_ (i := 10) (N := some 15) (v := undef) (a' := ?_) (bm 22 2047) rfl rfl (any_of HT_.out (by as_aux_lemma => kernel_rfl)) (fun _ _ _ h => h) (Or.inr ⟨by rfl, rfl⟩) ?_ ?_
  rotate_left
  · simp only [Act.put, List.setIfInBounds_toArray, List.set_cons_zero, List.set_cons_succ, i64_w, i32_w]
    rfl
  refine pure_ (i := 11) (N := some 16) (v := undef) (a' := ?_) (bm 22 4095) rfl rfl (any_of HT_.out (by as_aux_lemma => kernel_rfl)) (fun _ _ _ h => h) (Or.inr ⟨by rfl, rfl⟩) ?_ ?_
  rotate_left
  · simp only [Act.put, List.setIfInBounds_toArray, List.set_cons_zero, List.set_cons_succ, i64_w, i32_w]
    rfl
  refine pure_ (i := 12) (N := some 17) (v := undef) (a' := ?_) (bm 22 8191) rfl rfl (any_of HT_.out (by as_aux_lemma => kernel_rfl)) (fun _ _ _ h => h) (Or.inr ⟨by rfl, rfl⟩) ?_ ?_
  rotate_left
  · simp only [Act.put, List.setIfInBounds_toArray, List.set_cons_zero, List.set_cons_succ, i64_w, i32_w]
    rfl
  refine pure_ (i := 13) (N := some 18) (v := undef) (a' := ?_) (bm 22 16383) rfl rfl (any_of HT_.out (by as_aux_lemma => kernel_rfl)) (fun _ _ _ h => h) (Or.inr ⟨by rfl, rfl⟩) ?_ ?_
  rotate_left
  · simp only [Act.put, List.setIfInBounds_toArray, List.set_cons_zero, List.set_cons_succ, i64_w, i32_w]
    rfl
  refine pure_ (i := 14) (N := some 19) (v := undef) (a' := ?_) (bm 22 32767) rfl rfl (any_of HT_.out (by as_aux_lemma => kernel_rfl)) (fun _ _ _ h => h) (Or.inr ⟨by rfl, rfl⟩) ?_ ?_
  rotate_left
  · simp only [Act.put, List.setIfInBounds_toArray, List.set_cons_zero, List.set_cons_succ, i64_w, i32_w]
    rfl
  refine pure_ (i := 15) (N := some 20) (v := undef) (a' := ?_) (bm 22 65535) rfl rfl (any_of HT_.out (by as_aux_lemma => kernel_rfl)) (fun _ _ _ h => h) (Or.inr ⟨by rfl, rfl⟩) ?_ ?_
  rotate_left
  · simp only [Act.put, List.setIfInBounds_toArray, List.set_cons_zero, List.set_cons_succ, i64_w, i32_w]
    rfl
  refine pure_ (i := 16) (N := some 21) (v := undef) (a' := ?_) (bm 22 131071) rfl rfl (any_of HT_.out (by as_aux_lemma => kernel_rfl)) (fun _ _ _ h => h) (Or.inr ⟨by rfl, rfl⟩) ?_ ?_
  rotate_left
  · simp only [Act.put, List.setIfInBounds_toArray, List.set_cons_zero, List.set_cons_succ, i64_w, i32_w]
    rfl
  refine pure_ (i := 17) (N := some 22) (v := undef) (a' := ?_) (bm 22 262143) rfl rfl (any_of HT_.out (by as_aux_lemma => kernel_rfl)) (fun _ _ _ h => h) (Or.inr ⟨by rfl, rfl⟩) ?_ ?_
  rotate_left
  · simp only [Act.put, List.setIfInBounds_toArray, List.set_cons_zero, List.set_cons_succ, i64_w, i32_w]
    rfl
  refine pure_ (i := 18) (N := some 23) (v := undef) (a' := ?_) (bm 22 524287) rfl rfl (any_of HT_.out (by as_aux_lemma => kernel_rfl)) (fun _ _ _ h => h) (Or.inr ⟨by rfl, rfl⟩) ?_ ?_
  rotate_left
  · simp only [Act.put, List.setIfInBounds_toArray, List.set_cons_zero, List.set_cons_succ, i64_w, i32_w]
    rfl
  refine pure_ (i := 19) (N := some 24) (v := undef) (a' := ?_) (bm 22 1048575) rfl rfl (any_of HT_.out (by as_aux_lemma => kernel_rfl)) (fun _ _ _ h => h) (Or.inr ⟨by rfl, rfl⟩) ?_ ?_
  rotate_left
  · simp only [Act.put, List.setIfInBounds_toArray, List.set_cons_zero, List.set_cons_succ, i64_w, i32_w]
    rfl
  refine pure_ (i := 20) (N := some 25) (v := undef) (a' := ?_) (bm 22 2097151) rfl rfl (any_of HT_.out (by as_aux_lemma => kernel_rfl)) (fun _ _ _ h => h) (Or.inr ⟨by rfl, rfl⟩) ?_ ?_
  rotate_left
  · simp only [Act.put, List.setIfInBounds_toArray, List.set_cons_zero, List.set_cons_succ, i64_w, i32_w]
    rfl
  refine pure_ (i := 21) (N := some 26) (v := ?_) (a' := ?_) (bm 22 4194303) rfl rfl (any_of HT_.out (by as_aux_lemma => kernel_rfl)) (fun _ _ _ h => h) (Or.inl ⟨by rfl, ?_⟩) ?_ ?_
  rotate_left
  · intro w'
    go_simp
    with_reducible rfl
  rotate_left
  · simp only [Act.put, List.setIfInBounds_toArray, List.set_cons_zero, List.set_cons_succ, i64_w, i32_w]
    rfl
  refine done_ (done_of HT_.out (by as_aux_lemma => kernel_rfl)) ?_
  have hb := hHeld.2.2.2.1.out
  have hU := hHeld.2.2.2.2.out
  obtain ⟨⟨q0, q1, q2, q3⟩, p0, p1, p2, p3⟩ := cells4 hb
  clear hHeld
  generalize World.drew w = wd at *
  have HS := Aside0.mk (fun (W : World) (hW : W = (wd.setCell ⟨g, 2, none⟩ (.bool true)).setCell ⟨g, 1, none⟩ (.int .i64 xs.length)) => (by
    subst hW
    exact ⟨h1, Nat.le_refl _, hx, A, c, blk_put (blk_put hb 2 _ rfl) 1 _ rfl, h3, H4.out.on ((hU.trans ((Upd.set _ _ _ _).trans (Upd.set _ _ _ _))).kept.mono (fun k hk => .inr (by omega)))⟩ : RAt hi W g xs xs.length true e))
  have HU := Aside0.mk (hU.trans ((Upd.set wd g 2 (.bool true)).trans (Upd.set _ g 1 (.int .i64 xs.length))))
  clear hb hU
  go_wp2_with (go_at_call 26; refine (FIN.out _ ?hw).mono ?_; (case hw => exact HS.out _ rfl); rintro en w2 ⟨rfl, b1, b2⟩; have N1 := Aside0.mk b1; have N2 := Aside0.mk b2; clear b1 b2)
  go_ret
  exact ⟨rfl, N1.out, HU.out.trans N2.out⟩
theorem bytes_over (hi g : Nat) (xs : List Int) (n : Nat) (e m : Int) (w : World) (h : RAt hi w g xs n false e) (hm : ¬ m < 0) (ho : (xs.length : Int) - n < m) :
    Calls Try.prog 31 #[.pointer (some ⟨g, 0, none⟩), .int .i64 m] w fun en w' => en = .returned (.slice none 0 0) ∧ RAt hi w' g xs xs.length true (fstE e 2) ∧ Upd g w w' := by
  obtain ⟨h1, hn, hx, A, c, h2, h3, h4⟩ := h
  obtain ⟨⟨k0, k1, k2, k3⟩, f0, f1, f2, f3⟩ := cells4 h2
  have H2 := Aside0.mk h2
  have H4 := Aside0.mk h4
  clear h2 h4
  have hu1 := Try.underlying56
  have d1 : decide (m < 0) = false := decide_eq_false hm
  have d2 : decide (m > (xs.length : Int) - (n : Int)) = true := decide_eq_true ho
  have d3 : decide ((xs.length : Int) - (n : Int) < m) = true := decide_eq_true ho
  have c1 : wrap64 ((xs.length : Int) - (n : Int)) = (xs.length : Int) - (n : Int) := wrap64_id (by omega) (by omega)
  have FIN := Aside0.mk (fun (W : World) (hW : RAt hi W g xs xs.length true e) => need_any hi g xs xs.length true e W hW 2)
  go_enter Try.func31, Try.ntmps31
  go_wp2
  refine start_ (n := 22) (S := fun w' => w'.cell? ⟨g, 0, none⟩ = some (.slice A xs.length c) ∧ w'.cell? ⟨g, 1, none⟩ = some (.int .i64 n) ∧ w'.cell? ⟨g, 2, none⟩ = some (.bool false) ∧ Aside0 (w'.heap[g]? = some (.cells #[.slice A xs.length c, .int .i64 n, .bool false, .int .i64 e] 56 (0, 0))) ∧ Aside0 (Upd g w w')) (ds := []) (bm 22 0) (by as_aux_lemma => kernel_rfl) rfl (by as_aux_lemma => kernel_rfl) ⟨k0, k1, k2, (Aside0.mk H2.out), (Aside0.mk ⟨rfl, rfl, rfl, (Kept.refl _ _).drew⟩)⟩ (fun hHeld => ?_)
  refine with_tabW rbytes.tab1 rbytes.bits1 (fun HT_ HW_ => ?_)
  refine pure_ (i := 0) (N := some 5) (v := ?_) (a' := ?_) (bm 22 1) rfl rfl (any_of HT_.out (by as_aux_lemma => kernel_rfl)) (fun _ _ _ h => h) (Or.inl ⟨by rfl, ?_⟩) ?_ ?_
  rotate_left
  · intro w'
    go_simp
    with_reducible rfl
  rotate_left
  · simp only [Act.put, List.setIfInBounds_toArray, List.set_cons_zero, List.set_cons_succ, i64_w, i32_w]
    rfl
  refine pure_ (i := 1) (N := some 6) (v := ?_) (a' := ?_) (bm 22 3) rfl rfl (any_of HT_.out (by as_aux_lemma => kernel_rfl)) (fun _ _ _ h => h) (Or.inl ⟨by rfl, ?_⟩) ?_ ?_
  rotate_left
  · intro w'
    go_simp
    with_reducible rfl
  rotate_left
  · simp only [Act.put, List.setIfInBounds_toArray, List.set_cons_zero, List.set_cons_succ, i64_w, i32_w]
    rfl
  refine pure_ (i := 2) (N := some 7) (v := ?_) (a' := ?_) (bm 22 7) rfl rfl (any_of HT_.out (by as_aux_lemma => kernel_rfl)) (fun _ _ _ h => h) (Or.inl ⟨by rfl, ?_⟩) ?_ ?_
  rotate_left
  · intro w'
    go_simp
    with_reducible rfl
  rotate_left
  · simp only [Act.put, List.setIfInBounds_toArray, List.set_cons_zero, List.set_cons_succ, i64_w, i32_w]
    rfl
  refine take_ (i := 3) (N := some 8) (v := ?_) (a' := ?_) (bm 22 15) rfl rfl (take_ofW HT_.out HW_.out (by as_aux_lemma => kernel_rfl)) (fun _ _ _ h => h) (Or.inl ⟨by rfl, ?_⟩) hHeld ?_ ?_
  rotate_left
  · rintro w' ⟨s0, s1, s2, s3, s4⟩
    go_simp
    with_reducible rfl
  rotate_left
  · simp only [Act.put, List.setIfInBounds_toArray, List.set_cons_zero, List.set_cons_succ, i64_w, i32_w]
    rfl
  refine pure_ (i := 4) (N := some 9) (v := ?_) (a' := ?_) (bm 22 31) rfl rfl (any_of HT_.out (by as_aux_lemma => kernel_rfl)) (fun _ _ _ h => h) (Or.inl ⟨by rfl, ?_⟩) ?_ ?_
  rotate_left
  · intro w'
    go_simp
    with_reducible rfl
  rotate_left
  · simp only [Act.put, List.setIfInBounds_toArray, List.set_cons_zero, List.set_cons_succ, i64_w, i32_w]
    rfl
  refine pure_ (i := 5) (N := some 10) (v := ?_) (a' := ?_) (bm 22 63) rfl rfl (any_of HT_.out (by as_aux_lemma => kernel_rfl)) (fun _ _ _ h => h) (Or.inl ⟨by rfl, ?_⟩) ?_ ?_
  rotate_left
  · intro w'
    go_simp
    with_reducible rfl
  rotate_left
  · simp only [Act.put, List.setIfInBounds_toArray, List.set_cons_zero, List.set_cons_succ, i64_w, i32_w]
    rfl
  refine pure_ (i := 6) (N := some 11) (v := ?_) (a' := ?_) (bm 22 127) rfl rfl (any_of HT_.out (by as_aux_lemma => kernel_rfl)) (fun _ _ _ h => h) (Or.inl ⟨by rfl, ?_⟩) ?_ ?_
  rotate_left
  · intro w'
    go_simp
    with_reducible rfl
  rotate_left
  · simp only [Act.put, List.setIfInBounds_toArray, List.set_cons_zero, List.set_cons_succ, i64_w, i32_w]
    rfl
  refine pure_ (i := 7) (N := some 12) (v := ?_) (a' := ?_) (bm 22 255) rfl rfl (any_of HT_.out (by as_aux_lemma => kernel_rfl)) (fun _ _ _ h => h) (Or.inl ⟨by rfl, ?_⟩) ?_ ?_
  rotate_left
  · intro w'
    go_simp
    with_reducible rfl
  rotate_left
  · simp only [Act.put, List.setIfInBounds_toArray, List.set_cons_zero, List.set_cons_succ, i64_w, i32_w]
    rfl
  refine pure_ (i := 8) (N := some 13) (v := ?_) (a' := ?_) (bm 22 511) rfl rfl (any_of HT_.out (by as_aux_lemma => kernel_rfl)) (fun _ _ _ h => h) (Or.inl ⟨by rfl, ?_⟩) ?_ ?_
  rotate_left
  · intro w'
    go_simp
    with_reducible rfl
  rotate_left
  · simp only [Act.put, List.setIfInBounds_toArray, List.set_cons_zero, List.set_cons_succ, i64_w, i32_w]
    rfl
  refine pure_ (i := 9) (N := some 14) (v := ?_) (a' := ?_) (bm 22 1023) rfl rfl (any_of HT_.out (by as_aux_lemma => kernel_rfl)) (fun _ _ _ h => h) (Or.inl ⟨by rfl, ?_⟩) ?_ ?_
  rotate_left
  · intro w'
    go_simp
    with_reducible rfl
  rotate_left
  · simp only [Act.put, List.setIfInBounds_toArray, List.set_cons_zero, List.set_cons_succ, i64_w, i32_w]
    rfl
  refine pure_ (i := 10) (N := some 15) (v := ?_) (a' := ?_) (bm 22 2047) rfl rfl (any_of HT_.out (by as_aux_lemma => kernel_rfl)) (fun _ _ _ h => h) (Or.inl ⟨by rfl, ?_⟩) ?_ ?_
  rotate_left
  · intro w'
    go_simp
    with_reducible rfl
  rotate_left
  · simp only [Act.put, List.setIfInBounds_toArray, List.set_cons_zero, List.set_cons_succ, i64_w, i32_w]
    rfl
  refine pure_ (i := 11) (N := some 16) (v := ?_) (a' := ?_) (bm 22 4095) rfl rfl (any_of HT_.out (by as_aux_lemma => kernel_rfl)) (fun _ _ _ h => h) (Or.inl ⟨by rfl, ?_⟩) ?_ ?_
  rotate_left
  · intro w'
    go_simp
    with_reducible rfl
  rotate_left
  · simp only [Act.put, List.setIfInBounds_toArray, List.set_cons_zero, List.set_cons_succ, i64_w, i32_w]
    rfl
  refine pure_ (i := 12) (N := some 17) (v := ?_) (a' := ?_) (bm 22 8191) rfl rfl (any_of HT_.out (by as_aux_lemma => kernel_rfl)) (fun _ _ _ h => h) (Or.inl ⟨by rfl, ?_⟩) ?_ ?_
  rotate_left
  · intro w'
    go_simp
    with_reducible rfl
  rotate_left
  · simp only [Act.put, List.setIfInBounds_toArray, List.set_cons_zero, List.set_cons_succ, i64_w, i32_w]
    rfl
  refine pure_ (i := 15) (N := some 20) (v := ?_) (a' := ?_) (bm 22 40959) rfl rfl (any_of HT_.out (by as_aux_lemma => kernel_rfl)) (fun _ _ _ h => h) (Or.inl ⟨by rfl, ?_⟩) ?_ ?_
  rotate_left
  · intro w'
    go_simp
    with_reducible rfl
  rotate_left
  · simp only [Act.put, List.setIfInBounds_toArray, List.set_cons_zero, List.set_cons_succ, i64_w, i32_w]
    rfl
  refine pure_ (i := 16) (N := some 21) (v := ?_) (a' := ?_) (bm 22 106495) rfl rfl (any_of HT_.out (by as_aux_lemma => kernel_rfl)) (fun _ _ _ h => h) (Or.inl ⟨by rfl, ?_⟩) ?_ ?_
  rotate_left
  · intro w'
    go_simp
    with_reducible rfl
  rotate_left
  · simp only [Act.put, List.setIfInBounds_toArray, List.set_cons_zero, List.set_cons_succ, i64_w, i32_w]
    rfl
  refine pure_ (i := 17) (N := some 22) (v := ?_) (a' := ?_) (bm 22 237567) rfl rfl (any_of HT_.out (by as_aux_lemma => kernel_rfl)) (fun _ _ _ h => h) (Or.inl ⟨by rfl, ?_⟩) ?_ ?_
  rotate_left
  · intro w'
    go_simp
    with_reducible rfl
  rotate_left
  · simp only [Act.put, List.setIfInBounds_toArray, List.set_cons_zero, List.set_cons_succ, i64_w, i32_w]
    rfl
  refine take_ (i := 13) (N := some 18) (v := ?_) (a' := ?_) (bm 22 245759) rfl rfl (take_ofW HT_.out HW_.out (by as_aux_lemma => kernel_rfl)) (fun _ _ _ h => h) (Or.inl ⟨by rfl, ?_⟩) hHeld ?_ ?_
  rotate_left
  · rintro w' ⟨s0, s1, s2, s3, s4⟩
    go_simp
    with_reducible rfl
  rotate_left
  · simp only [Act.put, List.setIfInBounds_toArray, List.set_cons_zero, List.set_cons_succ, i64_w, i32_w]
    rfl
  refine pure_ (i := 14) (N := some 19) (v := ?_) (a' := ?_) (bm 22 262143) rfl rfl (any_of HT_.out (by as_aux_lemma => kernel_rfl)) (fun _ _ _ h => h) (Or.inl ⟨by rfl, ?_⟩) ?_ ?_
  rotate_left
  · intro w'
    go_simp
    with_reducible rfl
  rotate_left
  · simp only [Act.put, List.setIfInBounds_toArray, List.set_cons_zero, List.set_cons_succ, i64_w, i32_w]
    rfl
  refine take_ (i := 18) (N := some 23) (v := ?_) (a' := ?_) (bm 22 524287) rfl rfl (take_ofW HT_.out HW_.out (by as_aux_lemma => kernel_rfl)) (fun _ _ _ h => h) (Or.inl ⟨by rfl, ?_⟩) hHeld ?_ ?_
  rotate_left
  · rintro w' ⟨s0, s1, s2, s3, s4⟩
    go_simp
    with_reducible rfl
  rotate_left
  · simp only [Act.put, List.setIfInBounds_toArray, List.set_cons_zero, List.set_cons_succ, i64_w, i32_w]
    rfl
  refine pure_ (i := 19) (N := some 24) (v := ?_) (a' := ?_) (bm 22 1048575) rfl rfl (any_of HT_.out (by as_aux_lemma => kernel_rfl)) (fun _ _ _ h => h) (Or.inl ⟨by rfl, ?_⟩) ?_ ?_
  rotate_left
  · intro w'
    go_simp
    with_reducible rfl
  rotate_left
  · simp only [Act.put, List.setIfInBounds_toArray, List.set_cons_zero, List.set_cons_succ, i64_w, i32_w]
    rfl
  refine pure_ (i := 20) (N := some 25) (v := ?_) (a' := ?_) (bm 22 2097151) rfl rfl (any_of HT_.out (by as_aux_lemma => kernel_rfl)) (fun _ _ _ h => h) (Or.inl ⟨by rfl, ?_⟩) ?_ ?_
  rotate_left
  · intro w'
    go_simp
    with_reducible rfl
  rotate_left
  · simp only [Act.put, List.setIfInBounds_toArray, List.set_cons_zero, List.set_cons_succ, i64_w, i32_w]
    rfl
  refine pure_ (i := 21) (N := some 26) (v := ?_) (a' := ?_) (bm 22 4194303) rfl rfl (any_of HT_.out (by as_aux_lemma => kernel_rfl)) (fun _ _ _ h => h) (Or.inl ⟨by rfl, ?_⟩) ?_ ?_
  rotate_left
  · intro w'
    go_simp
    with_reducible rfl
  rotate_left
  · simp only [Act.put, List.setIfInBounds_toArray, List.set_cons_zero, List.set_cons_succ, i64_w, i32_w]
    rfl
  refine done_ (done_of HT_.out (by as_aux_lemma => kernel_rfl)) ?_
  have hb := hHeld.2.2.2.1.out
  have hU := hHeld.2.2.2.2.out
  obtain ⟨⟨q0, q1, q2, q3⟩, p0, p1, p2, p3⟩ := cells4 hb
  clear hHeld
  generalize World.drew w = wd at *
  have HS := Aside0.mk (fun (W : World) (hW : W = (wd.setCell ⟨g, 2, none⟩ (.bool true)).setCell ⟨g, 1, none⟩ (.int .i64 xs.length)) => (by
    subst hW
    exact ⟨h1, Nat.le_refl _, hx, A, c, blk_put (blk_put hb 2 _ rfl) 1 _ rfl, h3, H4.out.on ((hU.trans ((Upd.set _ _ _ _).trans (Upd.set _ _ _ _))).kept.mono (fun k hk => .inr (by omega)))⟩ : RAt hi W g xs xs.length true e))
  have HU := Aside0.mk (hU.trans ((Upd.set wd g 2 (.bool true)).trans (Upd.set _ g 1 (.int .i64 xs.length))))
  clear hb hU
  go_wp2_with (go_at_call 26; refine (FIN.out _ ?hw).mono ?_; (case hw => exact HS.out _ rfl); rintro en w2 ⟨rfl, b1, b2⟩; have N1 := Aside0.mk b1; have N2 := Aside0.mk b2; clear b1 b2)
  go_ret
  exact ⟨rfl, N1.out, HU.out.trans N2.out⟩
theorem bytes_ok (hi g : Nat) (xs : List Int) (n : Nat) (e : Int) (m : Nat) (w : World) (h : RAt hi w g xs n false e) (hm : m ≤ xs.length - n) :
    Calls Try.prog 31 #[.pointer (some ⟨g, 0, none⟩), .int .i64 m] w fun en w' => ∃ A' c', en = .returned (.slice A' ((xs.drop n).take m).length c') ∧ ((xs.drop n).take m).length ≤ c' ∧ Row 0 hi w' A' ((xs.drop n).take m) ∧ RAt hi w' g xs (n + m) false e ∧ Upd g w w' := by
  obtain ⟨h1, hn, hx, A, c, h2, h3, h4⟩ := h
  obtain ⟨⟨k0, k1, k2, k3⟩, f0, f1, f2, f3⟩ := cells4 h2
  have H2 := Aside0.mk h2
  have H4 := Aside0.mk h4
  clear h2 h4
  have hu1 := Try.underlying56
  have c1 : wrap64 ((xs.length : Int) - (n : Int)) = (xs.length : Int) - (n : Int) := wrap64_id (by omega) (by omega)
  have d1 : decide ((m : Int) < 0) = false := decide_eq_false (by omega)
  have d2 : decide ((m : Int) > (xs.length : Int) - (n : Int)) = false := decide_eq_false (by omega)
  have d3 : decide ((xs.length : Int) - (n : Int) < (m : Int)) = false := decide_eq_false (by omega)
  have c2 : wrap64 ((n : Int) + (m : Int)) = (n : Int) + (m : Int) := wrap64_id (by omega) (by omega)
  have c3 : wrap64 ((n : Int) + (m : Int) - (m : Int)) = (n : Int) := by rw [wrap64_id (by omega) (by omega)]; omega
  have c5 : wrap64 (n : Int) = (n : Int) := wrap64_id (by omega) (by omega)
  have c4 : (n : Int) + (m : Int) - (m : Int) = (n : Int) := by omega
  clear c3
  obtain ⟨i, hi1, hi2⟩ := u8_info
  have cut := cut_mid 22 5 .i64 .i64 Try.underlying22 hi1 1 hi2 A xs.length c (n : Int) ((n : Int) + (m : Int)) (by omega) (by omega) (by omega) h3
  have hl : ((xs.drop n).take m).length = m := by rw [List.length_take, List.length_drop]; omega
  have hZt : ((n : Int) + (m : Int)).toNat = n + m := by omega
  have hZm : n + m - n = m := by omega
  rw [hZt, Int.toNat_natCast, hZm] at cut
  obtain ⟨A2, hA2⟩ : ∃ A2, A2 = if c = n then A else A.map fun x => x.add (n * 1) := ⟨_, rfl⟩
  rw [← hA2] at cut
  have HR : ∀ W', Kept w W' (fun k => k < 0 ∨ hi ≤ k) → Kd.C (Kd.int .u8) W' A2 ((xs.drop n).take m).length ((xs.drop n).take m) := fun W' hk => Kd.C_take (by have := Kd.C_drop (H4.out W' hk) hn h3; rw [hA2]; exact this) (by rw [List.length_drop]; omega)
  have HRR := Aside0.mk HR
  have hcn : m ≤ c - n := by omega
  clear HR hA2 hi1 hZm hZt
  rw [hl]
  go_enter Try.func31, Try.ntmps31
  go_wp2
  refine start_ (n := 22) (S := fun w' => w'.cell? ⟨g, 0, none⟩ = some (.slice A xs.length c) ∧ w'.cell? ⟨g, 1, none⟩ = some (.int .i64 n) ∧ w'.cell? ⟨g, 2, none⟩ = some (.bool false) ∧ Aside0 (w'.heap[g]? = some (.cells #[.slice A xs.length c, .int .i64 n, .bool false, .int .i64 e] 56 (0, 0))) ∧ Aside0 (Upd g w w')) (ds := []) (bm 22 0) (by as_aux_lemma => kernel_rfl) rfl (by as_aux_lemma => kernel_rfl) ⟨k0, k1, k2, (Aside0.mk H2.out), (Aside0.mk ⟨rfl, rfl, rfl, (Kept.refl _ _).drew⟩)⟩ (fun hHeld => ?_)
  refine with_tabW rbytes.tab1 rbytes.bits1 (fun HT_ HW_ => ?_)
  refine pure_ (i := 0) (N := some 5) (v := ?_) (a' := ?_) (bm 22 1) rfl rfl (any_of HT_.out (by as_aux_lemma => kernel_rfl)) (fun _ _ _ h => h) (Or.inl ⟨by rfl, ?_⟩) ?_ ?_
  rotate_left
  · intro w'
    go_simp
    with_reducible rfl
  rotate_left
  · simp only [Act.put, List.setIfInBounds_toArray, List.set_cons_zero, List.set_cons_succ, i64_w, i32_w]
    rfl
  refine pure_ (i := 1) (N := some 6) (v := ?_) (a' := ?_) (bm 22 3) rfl rfl (any_of HT_.out (by as_aux_lemma => kernel_rfl)) (fun _ _ _ h => h) (Or.inl ⟨by rfl, ?_⟩) ?_ ?_
  rotate_left
  · intro w'
    go_simp
    with_reducible rfl
  rotate_left
  · simp only [Act.put, List.setIfInBounds_toArray, List.set_cons_zero, List.set_cons_succ, i64_w, i32_w]
    rfl
  refine pure_ (i := 2) (N := some 7) (v := ?_) (a' := ?_) (bm 22 7) rfl rfl (any_of HT_.out (by as_aux_lemma => kernel_rfl)) (fun _ _ _ h => h) (Or.inl ⟨by rfl, ?_⟩) ?_ ?_
  rotate_left
  · intro w'
    go_simp
    with_reducible rfl
  rotate_left
  · simp only [Act.put, List.setIfInBounds_toArray, List.set_cons_zero, List.set_cons_succ, i64_w, i32_w]
    rfl
  refine take_ (i := 3) (N := some 8) (v := ?_) (a' := ?_) (bm 22 15) rfl rfl (take_ofW HT_.out HW_.out (by as_aux_lemma => kernel_rfl)) (fun _ _ _ h => h) (Or.inl ⟨by rfl, ?_⟩) hHeld ?_ ?_
  rotate_left
  · rintro w' ⟨s0, s1, s2, s3, s4⟩
    go_simp
    with_reducible rfl
  rotate_left
  · simp only [Act.put, List.setIfInBounds_toArray, List.set_cons_zero, List.set_cons_succ, i64_w, i32_w]
    rfl
  refine pure_ (i := 4) (N := some 9) (v := ?_) (a' := ?_) (bm 22 31) rfl rfl (any_of HT_.out (by as_aux_lemma => kernel_rfl)) (fun _ _ _ h => h) (Or.inl ⟨by rfl, ?_⟩) ?_ ?_
  rotate_left
  · intro w'
    go_simp
    with_reducible rfl
  rotate_left
  · simp only [Act.put, List.setIfInBounds_toArray, List.set_cons_zero, List.set_cons_succ, i64_w, i32_w]
    rfl
  refine pure_ (i := 5) (N := some 10) (v := ?_) (a' := ?_) (bm 22 63) rfl rfl (any_of HT_.out (by as_aux_lemma => kernel_rfl)) (fun _ _ _ h => h) (Or.inl ⟨by rfl, ?_⟩) ?_ ?_
  rotate_left
  · intro w'
    go_simp
    with_reducible rfl
  rotate_left
  · simp only [Act.put, List.setIfInBounds_toArray, List.set_cons_zero, List.set_cons_succ, i64_w, i32_w]
    rfl
  refine pure_ (i := 6) (N := some 11) (v := ?_) (a' := ?_) (bm 22 127) rfl rfl (any_of HT_.out (by as_aux_lemma => kernel_rfl)) (fun _ _ _ h => h) (Or.inl ⟨by rfl, ?_⟩) ?_ ?_
  rotate_left
  · intro w'
    go_simp
    with_reducible rfl
  rotate_left
  · simp only [Act.put, List.setIfInBounds_toArray, List.set_cons_zero, List.set_cons_succ, i64_w, i32_w]
    rfl
  refine pure_ (i := 7) (N := some 12) (v := ?_) (a' := ?_) (bm 22 255) rfl rfl (any_of HT_.out (by as_aux_lemma => kernel_rfl)) (fun _ _ _ h => h) (Or.inl ⟨by rfl, ?_⟩) ?_ ?_
  rotate_left
  · intro w'
    go_simp
    with_reducible rfl
  rotate_left
  · simp only [Act.put, List.setIfInBounds_toArray, List.set_cons_zero, List.set_cons_succ, i64_w, i32_w]
    rfl
  refine pure_ (i := 8) (N := some 13) (v := ?_) (a' := ?_) (bm 22 511) rfl rfl (any_of HT_.out (by as_aux_lemma => kernel_rfl)) (fun _ _ _ h => h) (Or.inl ⟨by rfl, ?_⟩) ?_ ?_
  rotate_left
  · intro w'
    go_simp
    with_reducible rfl
  rotate_left
  · simp only [Act.put, List.setIfInBounds_toArray, List.set_cons_zero, List.set_cons_succ, i64_w, i32_w]
    rfl
  refine pure_ (i := 9) (N := some 14) (v := ?_) (a' := ?_) (bm 22 1023) rfl rfl (any_of HT_.out (by as_aux_lemma => kernel_rfl)) (fun _ _ _ h => h) (Or.inl ⟨by rfl, ?_⟩) ?_ ?_
  rotate_left
  · intro w'
    go_simp
    with_reducible rfl
  rotate_left
  · simp only [Act.put, List.setIfInBounds_toArray, List.set_cons_zero, List.set_cons_succ, i64_w, i32_w]
    rfl
  refine pure_ (i := 10) (N := some 15) (v := ?_) (a' := ?_) (bm 22 2047) rfl rfl (any_of HT_.out (by as_aux_lemma => kernel_rfl)) (fun _ _ _ h => h) (Or.inl ⟨by rfl, ?_⟩) ?_ ?_
  rotate_left
  · intro w'
    go_simp
    with_reducible rfl
  rotate_left
  · simp only [Act.put, List.setIfInBounds_toArray, List.set_cons_zero, List.set_cons_succ, i64_w, i32_w]
    rfl
  refine pure_ (i := 11) (N := some 16) (v := ?_) (a' := ?_) (bm 22 4095) rfl rfl (any_of HT_.out (by as_aux_lemma => kernel_rfl)) (fun _ _ _ h => h) (Or.inl ⟨by rfl, ?_⟩) ?_ ?_
  rotate_left
  · intro w'
    go_simp
    with_reducible rfl
  rotate_left
  · simp only [Act.put, List.setIfInBounds_toArray, List.set_cons_zero, List.set_cons_succ, i64_w, i32_w]
    rfl
  refine pure_ (i := 12) (N := some 17) (v := ?_) (a' := ?_) (bm 22 8191) rfl rfl (any_of HT_.out (by as_aux_lemma => kernel_rfl)) (fun _ _ _ h => h) (Or.inl ⟨by rfl, ?_⟩) ?_ ?_
  rotate_left
  · intro w'
    go_simp
    with_reducible rfl
  rotate_left
  · simp only [Act.put, List.setIfInBounds_toArray, List.set_cons_zero, List.set_cons_succ, i64_w, i32_w]
    rfl
  refine pure_ (i := 15) (N := some 20) (v := ?_) (a' := ?_) (bm 22 40959) rfl rfl (any_of HT_.out (by as_aux_lemma => kernel_rfl)) (fun _ _ _ h => h) (Or.inl ⟨by rfl, ?_⟩) ?_ ?_
  rotate_left
  · intro w'
    go_simp
    with_reducible rfl
  rotate_left
  · simp only [Act.put, List.setIfInBounds_toArray, List.set_cons_zero, List.set_cons_succ, i64_w, i32_w]
    rfl
  refine pure_ (i := 16) (N := some 21) (v := ?_) (a' := ?_) (bm 22 106495) rfl rfl (any_of HT_.out (by as_aux_lemma => kernel_rfl)) (fun _ _ _ h => h) (Or.inl ⟨by rfl, ?_⟩) ?_ ?_
  rotate_left
  · intro w'
    go_simp
    with_reducible rfl
  rotate_left
  · simp only [Act.put, List.setIfInBounds_toArray, List.set_cons_zero, List.set_cons_succ, i64_w, i32_w]
    rfl
  refine pure_ (i := 17) (N := some 22) (v := ?_) (a' := ?_) (bm 22 237567) rfl rfl (any_of HT_.out (by as_aux_lemma => kernel_rfl)) (fun _ _ _ h => h) (Or.inl ⟨by rfl, ?_⟩) ?_ ?_
  rotate_left
  · intro w'
    go_simp
    with_reducible rfl
  rotate_left
  · simp only [Act.put, List.setIfInBounds_toArray, List.set_cons_zero, List.set_cons_succ, i64_w, i32_w]
    rfl
  refine take_ (i := 13) (N := some 18) (v := ?_) (a' := ?_) (bm 22 245759) rfl rfl (take_ofW HT_.out HW_.out (by as_aux_lemma => kernel_rfl)) (fun _ _ _ h => h) (Or.inl ⟨by rfl, ?_⟩) hHeld ?_ ?_
  rotate_left
  · rintro w' ⟨s0, s1, s2, s3, s4⟩
    go_simp
    with_reducible rfl
  rotate_left
  · simp only [Act.put, List.setIfInBounds_toArray, List.set_cons_zero, List.set_cons_succ, i64_w, i32_w]
    rfl
  refine pure_ (i := 14) (N := some 19) (v := ?_) (a' := ?_) (bm 22 262143) rfl rfl (any_of HT_.out (by as_aux_lemma => kernel_rfl)) (fun _ _ _ h => h) (Or.inl ⟨by rfl, ?_⟩) ?_ ?_
  rotate_left
  · intro w'
    go_simp
    with_reducible rfl
  rotate_left
  · simp only [Act.put, List.setIfInBounds_toArray, List.set_cons_zero, List.set_cons_succ, i64_w, i32_w]
    rfl
  refine take_ (i := 18) (N := some 23) (v := ?_) (a' := ?_) (bm 22 524287) rfl rfl (take_ofW HT_.out HW_.out (by as_aux_lemma => kernel_rfl)) (fun _ _ _ h => h) (Or.inl ⟨by rfl, ?_⟩) hHeld ?_ ?_
  rotate_left
  · rintro w' ⟨s0, s1, s2, s3, s4⟩
    go_simp
    with_reducible rfl
  rotate_left
  · simp only [Act.put, List.setIfInBounds_toArray, List.set_cons_zero, List.set_cons_succ, i64_w, i32_w]
    rfl
  refine pure_ (i := 19) (N := some 24) (v := ?_) (a' := ?_) (bm 22 1048575) rfl rfl (any_of HT_.out (by as_aux_lemma => kernel_rfl)) (fun _ _ _ h => h) (Or.inl ⟨by rfl, ?_⟩) ?_ ?_
  rotate_left
  · intro w'
    go_simp
    with_reducible rfl
  rotate_left
  · simp only [Act.put, List.setIfInBounds_toArray, List.set_cons_zero, List.set_cons_succ, i64_w, i32_w]
    rfl
  refine pure_ (i := 20) (N := some 25) (v := ?_) (a' := ?_) (bm 22 2097151) rfl rfl (any_of HT_.out (by as_aux_lemma => kernel_rfl)) (fun _ _ _ h => h) (Or.inl ⟨by rfl, ?_⟩) ?_ ?_
  rotate_left
  · intro w'
    go_simp
    with_reducible rfl
  rotate_left
  · simp only [Act.put, List.setIfInBounds_toArray, List.set_cons_zero, List.set_cons_succ, i64_w, i32_w]
    rfl
  refine pure_ (i := 21) (N := some 26) (v := ?_) (a' := ?_) (bm 22 4194303) rfl rfl (any_of HT_.out (by as_aux_lemma => kernel_rfl)) (fun _ _ _ h => h) (Or.inl ⟨by rfl, ?_⟩) ?_ ?_
  rotate_left
  · intro w'
    go_simp
    with_reducible rfl
  rotate_left
  · simp only [Act.put, List.setIfInBounds_toArray, List.set_cons_zero, List.set_cons_succ, i64_w, i32_w]
    rfl
  refine done_ (done_of HT_.out (by as_aux_lemma => kernel_rfl)) ?_
  have hb := hHeld.2.2.2.1.out
  have hU := hHeld.2.2.2.2.out
  obtain ⟨⟨q0, q1, q2, q3⟩, p0, p1, p2, p3⟩ := cells4 hb
  clear hHeld
  clear hb hU
  go_wp2
  have hb2 : (w.setCell ⟨g, 1, none⟩ (.int .i64 ((n : Int) + (m : Int)))).heap[g]? = some (.cells #[.slice A xs.length c, .int .i64 ((n : Int) + (m : Int)), .bool false, .int .i64 e] 56 (0, 0)) := blk_put H2.out 1 _ rfl
  have hU2 := Upd.set w g 1 (.int .i64 ((n : Int) + (m : Int)))
  obtain ⟨⟨r0, r1, r2, r3⟩, _⟩ := cells4 hb2
  refine start_ (n := 16) (S := fun w' => w'.cell? ⟨g, 0, none⟩ = some (.slice A xs.length c) ∧ w'.cell? ⟨g, 1, none⟩ = some (.int .i64 ((n : Int) + (m : Int))) ∧ w'.cell? ⟨g, 2, none⟩ = some (.bool false) ∧ Aside0 (w'.heap[g]? = some (.cells #[.slice A xs.length c, .int .i64 ((n : Int) + (m : Int)), .bool false, .int .i64 e] 56 (0, 0))) ∧ Aside0 (Upd g w w')) (ds := []) (bm 16 0) (by as_aux_lemma => kernel_rfl) rfl (by as_aux_lemma => kernel_rfl) ⟨r0, r1, r2, (Aside0.mk hb2), (Aside0.mk ⟨hU2.os, hU2.tape, hU2.output, hU2.kept⟩)⟩ (fun hHeld => ?_)
  refine with_tabW rbytes.tab7 rbytes.bits7 (fun HT_ HW_ => ?_)
  refine pure_ (i := 0) (N := some 49) (v := ?_) (a' := ?_) (bm 16 1) rfl rfl (any_of HT_.out (by as_aux_lemma => kernel_rfl)) (fun _ _ _ h => h) (Or.inl ⟨by rfl, ?_⟩) ?_ ?_
  rotate_left
  · intro w'
    go_simp
    with_reducible rfl
  rotate_left
  · simp only [Act.put, List.setIfInBounds_toArray, List.set_cons_zero, List.set_cons_succ, i64_w, i32_w]
    rfl
  refine pure_ (i := 1) (N := some 50) (v := ?_) (a' := ?_) (bm 16 3) rfl rfl (any_of HT_.out (by as_aux_lemma => kernel_rfl)) (fun _ _ _ h => h) (Or.inl ⟨by rfl, ?_⟩) ?_ ?_
  rotate_left
  · intro w'
    go_simp
    with_reducible rfl
  rotate_left
  · simp only [Act.put, List.setIfInBounds_toArray, List.set_cons_zero, List.set_cons_succ, i64_w, i32_w]
    rfl
  refine pure_ (i := 2) (N := some 51) (v := ?_) (a' := ?_) (bm 16 7) rfl rfl (any_of HT_.out (by as_aux_lemma => kernel_rfl)) (fun _ _ _ h => h) (Or.inl ⟨by rfl, ?_⟩) ?_ ?_
  rotate_left
  · intro w'
    go_simp
    with_reducible rfl
  rotate_left
  · simp only [Act.put, List.setIfInBounds_toArray, List.set_cons_zero, List.set_cons_succ, i64_w, i32_w]
    rfl
  refine pure_ (i := 4) (N := some 53) (v := ?_) (a' := ?_) (bm 16 23) rfl rfl (any_of HT_.out (by as_aux_lemma => kernel_rfl)) (fun _ _ _ h => h) (Or.inl ⟨by rfl, ?_⟩) ?_ ?_
  rotate_left
  · intro w'
    go_simp
    with_reducible rfl
  rotate_left
  · simp only [Act.put, List.setIfInBounds_toArray, List.set_cons_zero, List.set_cons_succ, i64_w, i32_w]
    rfl
  refine pure_ (i := 5) (N := some 54) (v := ?_) (a' := ?_) (bm 16 55) rfl rfl (any_of HT_.out (by as_aux_lemma => kernel_rfl)) (fun _ _ _ h => h) (Or.inl ⟨by rfl, ?_⟩) ?_ ?_
  rotate_left
  · intro w'
    go_simp
    with_reducible rfl
  rotate_left
  · simp only [Act.put, List.setIfInBounds_toArray, List.set_cons_zero, List.set_cons_succ, i64_w, i32_w]
    rfl
  refine pure_ (i := 6) (N := some 55) (v := ?_) (a' := ?_) (bm 16 119) rfl rfl (any_of HT_.out (by as_aux_lemma => kernel_rfl)) (fun _ _ _ h => h) (Or.inl ⟨by rfl, ?_⟩) ?_ ?_
  rotate_left
  · intro w'
    go_simp
    with_reducible rfl
  rotate_left
  · simp only [Act.put, List.setIfInBounds_toArray, List.set_cons_zero, List.set_cons_succ, i64_w, i32_w]
    rfl
  refine pure_ (i := 8) (N := some 57) (v := ?_) (a' := ?_) (bm 16 375) rfl rfl (any_of HT_.out (by as_aux_lemma => kernel_rfl)) (fun _ _ _ h => h) (Or.inl ⟨by rfl, ?_⟩) ?_ ?_
  rotate_left
  · intro w'
    go_simp
    with_reducible rfl
  rotate_left
  · simp only [Act.put, List.setIfInBounds_toArray, List.set_cons_zero, List.set_cons_succ, i64_w, i32_w]
    rfl
  refine pure_ (i := 10) (N := some 59) (v := ?_) (a' := ?_) (bm 16 1399) rfl rfl (any_of HT_.out (by as_aux_lemma => kernel_rfl)) (fun _ _ _ h => h) (Or.inl ⟨by rfl, ?_⟩) ?_ ?_
  rotate_left
  · intro w'
    go_simp
    with_reducible rfl
  rotate_left
  · simp only [Act.put, List.setIfInBounds_toArray, List.set_cons_zero, List.set_cons_succ, i64_w, i32_w]
    rfl
  refine pure_ (i := 11) (N := some 60) (v := ?_) (a' := ?_) (bm 16 3447) rfl rfl (any_of HT_.out (by as_aux_lemma => kernel_rfl)) (fun _ _ _ h => h) (Or.inl ⟨by rfl, ?_⟩) ?_ ?_
  rotate_left
  · intro w'
    go_simp
    with_reducible rfl
  rotate_left
  · simp only [Act.put, List.setIfInBounds_toArray, List.set_cons_zero, List.set_cons_succ, i64_w, i32_w]
    rfl
  refine pure_ (i := 12) (N := some 61) (v := ?_) (a' := ?_) (bm 16 7543) rfl rfl (any_of HT_.out (by as_aux_lemma => kernel_rfl)) (fun _ _ _ h => h) (Or.inl ⟨by rfl, ?_⟩) ?_ ?_
  rotate_left
  · intro w'
    go_simp
    with_reducible rfl
  rotate_left
  · simp only [Act.put, List.setIfInBounds_toArray, List.set_cons_zero, List.set_cons_succ, i64_w, i32_w]
    rfl
  refine take_ (i := 3) (N := some 52) (v := ?_) (a' := ?_) (bm 16 7551) rfl rfl (take_ofW HT_.out HW_.out (by as_aux_lemma => kernel_rfl)) (fun _ _ _ h => h) (Or.inl ⟨by rfl, ?_⟩) hHeld ?_ ?_
  rotate_left
  · rintro w' ⟨s0, s1, s2, s3, s4⟩
    go_simp
    with_reducible rfl
  rotate_left
  · simp only [Act.put, List.setIfInBounds_toArray, List.set_cons_zero, List.set_cons_succ, i64_w, i32_w]
    rfl
  refine take_ (i := 7) (N := some 56) (v := ?_) (a' := ?_) (bm 16 7679) rfl rfl (take_ofW HT_.out HW_.out (by as_aux_lemma => kernel_rfl)) (fun _ _ _ h => h) (Or.inl ⟨by rfl, ?_⟩) hHeld ?_ ?_
  rotate_left
  · rintro w' ⟨s0, s1, s2, s3, s4⟩
    go_simp
    with_reducible rfl
  rotate_left
  · simp only [Act.put, List.setIfInBounds_toArray, List.set_cons_zero, List.set_cons_succ, i64_w, i32_w]
    rfl
  refine pure_ (i := 9) (N := some 58) (v := ?_) (a' := ?_) (bm 16 8191) rfl rfl (any_of HT_.out (by as_aux_lemma => kernel_rfl)) (fun _ _ _ h => h) (Or.inl ⟨by rfl, ?_⟩) ?_ ?_
  rotate_left
  · intro w'
    go_simp
    with_reducible rfl
  rotate_left
  · simp only [Act.put, List.setIfInBounds_toArray, List.set_cons_zero, List.set_cons_succ, i64_w, i32_w]
    rfl
  refine take_ (i := 13) (N := some 62) (v := ?_) (a' := ?_) (bm 16 16383) rfl rfl (take_ofW HT_.out HW_.out (by as_aux_lemma => kernel_rfl)) (fun _ _ _ h => h) (Or.inl ⟨by rfl, ?_⟩) hHeld ?_ ?_
  rotate_left
  · rintro w' ⟨s0, s1, s2, s3, s4⟩
    go_simp
    with_reducible rfl
  rotate_left
  · simp only [Act.put, List.setIfInBounds_toArray, List.set_cons_zero, List.set_cons_succ, i64_w, i32_w]
    rfl
  refine pure_ (i := 14) (N := some 63) (v := ?_) (a' := ?_) (bm 16 32767) rfl rfl (any_of HT_.out (by as_aux_lemma => kernel_rfl)) (fun _ _ _ h => h) (Or.inl ⟨by rfl, ?_⟩) ?_ ?_
  rotate_left
  · intro w'
    go_simp
    with_reducible rfl
  rotate_left
  · simp only [Act.put, List.setIfInBounds_toArray, List.set_cons_zero, List.set_cons_succ, i64_w, i32_w]
    rfl
  refine pure_ (i := 15) (N := some 4) (v := ?_) (a' := ?_) (bm 16 65535) rfl rfl (any_of HT_.out (by as_aux_lemma => kernel_rfl)) (fun _ _ _ h => h) (Or.inl ⟨by rfl, ?_⟩) ?_ ?_
  rotate_left
  · intro w'
    go_simp
    with_reducible rfl
  rotate_left
  · simp only [Act.put, List.setIfInBounds_toArray, List.set_cons_zero, List.set_cons_succ, i64_w, i32_w]
    rfl
  refine done_ (done_of HT_.out (by as_aux_lemma => kernel_rfl)) ?_
  go_wp2
  go_ret
  have hK := hHeld.2.2.2.2.out
  refine ⟨A2, c - n, rfl, hcn, fun W' hk => HRR.out W' ((hK.kept.mono (fun k hk => .inr (by omega))).then_ hk (fun _ h2 => .inl h2)), ⟨h1, by omega, hx, A, c, ?_, h3, H4.out.on (hK.kept.mono (fun k hk => .inr (by omega)))⟩, hK⟩
  rw [Int.natCast_add]
  exact hHeld.2.2.2.1.out
end Go.Proofs.Ytalaochocmcbcaa.RCur
end
section
namespace Go.Proofs.Ytalaochocmcbcaa.RCur
open Go.RowKit Go.Proofs.Ytalaochocmcbcaa.P Go.Proofs.Ytalaochocmcbcaa.E Go.Proofs.Ytalaochocmcbcaa.Cur Go.Proofs.YtalaochocmcbcaaW.PrintWords Go.Proofs.YtalaochocmcbcaaW.PrintLast Go.Proofs.YtalaochocmcbcaaW.PrintMore
theorem reftake_any (A : Option Addr) (c : Nat) (l : List Int) (w : World) (hr : Kd.C (Kd.int .u8) w A l.length l) (hc : l.length ≤ c) (hb : isBytes l) (hl : l.length ≤ 1000000) :
    Calls Try.prog 48 #[.slice A l.length c] w fun e w' => ∃ A' c', e = .returned (.slice A' (Take.words l).length c') ∧ (Take.words l).length ≤ c' ∧ Row16 w.heap.size w'.heap.size w' A' (Take.words l) ∧ Below w.heap.size w w' := by
  obtain ⟨k, hk⟩ := (Take.reftake_ev l hb hl).rounds
  refine (busbarref04_Take.calls k A c l _ w hr hc hk).mono ?_
  rintro e w' ⟨v, rfl, R, B⟩
  obtain ⟨A2, c2, rfl, h2, h3⟩ := Kd.R_reads R
  obtain ⟨_, h5, h6⟩ := row16_of_R R
  exact ⟨A2, c2, rfl, h5, h6, B⟩
theorem reftake_nil (w : World) : Calls Try.prog 48 #[.slice none 0 0] w fun e w' => ∃ A' c', e = .returned (.slice A' 0 c') ∧ Below w.heap.size w w' := by
  refine (reftake_any none 0 [] w (Kd.C_nil _ w) (Nat.le_refl _) (fun x hx => by cases hx) (by simp)).mono ?_
  rintro e w' ⟨A', c', rfl, _, _, h⟩
  exact ⟨A', c', rfl, h⟩
theorem bytes_short (hi g : Nat) (xs : List Int) (n : Nat) (s : Bool) (e m : Int) (w : World) (h : RAt hi w g xs n s e) (hm : s = true ∨ m < 0 ∨ (xs.length : Int) - n < m) :
    Calls Try.prog 31 #[.pointer (some ⟨g, 0, none⟩), .int .i64 m] w fun en w' => en = .returned (.slice none 0 0) ∧ RAt hi w' g xs xs.length true (fstE e 2) ∧ Upd g w w' := by
  cases s with
  | true => exact bytes_s hi g xs n e m w h
  | false =>
    by_cases c1 : m < 0
    · exact bytes_neg hi g xs n e m w h c1
    · exact bytes_over hi g xs n e m w h c1 (by rcases hm with h | h | h; cases h; exact absurd h c1; exact h)
theorem byte_ok (hi g : Nat) (xs : List Int) (n : Nat) (e : Int) (w : World) (h : RAt hi w g xs n false e) (hn : n < xs.length) :
    Calls Try.prog 30 #[.pointer (some ⟨g, 0, none⟩)] w fun en w' => en = .returned (.int .u8 (xs.getD n 0)) ∧ RAt hi w' g xs (n + 1) false e ∧ Upd g w w' := by
  have hL : (xs.drop n).take 1 = [xs.getD n 0] := by rw [drop_cons hn 0]; rfl
  have hB := bytes_ok hi g xs n e 1 w h (by omega)
  rw [hL] at hB
  have HB := Aside0.mk hB
  clear h hB hL
  generalize xs.getD n 0 = x at HB ⊢
  go_enter Try.func30, Try.ntmps30
  go_wp2_with (go_at_call 31; refine HB.out.mono ?_; rintro en w1 ⟨A', c', rfl, b1, b2, b3, b4⟩; obtain ⟨ad, rfl, q0⟩ := at_row b2 0 (by simp); rw [Addr.add_zero'] at q0; have q1 : w1.cell? ad = some (.int .u8 x) := q0; have N3 := Aside0.mk b3; have N4 := Aside0.mk b4; clear b1 b2 b3 b4 HB q0)
  go_ret
  exact ⟨rfl, N3.out, N4.out⟩
theorem byte_short (hi g : Nat) (xs : List Int) (n : Nat) (s : Bool) (e : Int) (w : World) (h : RAt hi w g xs n s e) (hs : s = true ∨ xs.length ≤ n) :
    Calls Try.prog 30 #[.pointer (some ⟨g, 0, none⟩)] w fun en w' => en = .returned (.int .u8 0) ∧ RAt hi w' g xs xs.length true (fstE e 2) ∧ Upd g w w' := by
  have HB := Aside0.mk (bytes_short hi g xs n s e 1 w h (by rcases hs with h | h; exact .inl h; exact .inr (.inr (by omega))))
  clear h
  go_enter Try.func30, Try.ntmps30
  go_wp2_with (go_at_call 31; refine HB.out.mono ?_; rintro en w1 ⟨rfl, b3, b4⟩; have N3 := Aside0.mk b3; have N4 := Aside0.mk b4; clear b3 b4 HB)
  go_ret
  exact ⟨rfl, N3.out, N4.out⟩
theorem words_neg (hi g : Nat) (xs : List Int) (n : Nat) (s : Bool) (e m : Int) (w : World) (h : RAt hi w g xs n s e) (hm : m < 0) :
    Calls Try.prog 28 #[.pointer (some ⟨g, 0, none⟩), .int .i64 m] w fun en w' => ∃ A' c', en = .returned (.slice A' 0 c') ∧ RAt hi w' g xs xs.length true (fstE e 2) ∧ Upd g w w' := by
  have HA := Aside0.mk h
  obtain ⟨h1, hn, hx, A, c, h2, h3, h4⟩ := h
  obtain ⟨⟨k0, k1, k2, k3⟩, f0, f1, f2, f3⟩ := cells4 h2
  clear h2 h4
  have hu1 := Try.underlying56
  have d1 : decide (m < 0) = true := decide_eq_true hm
  go_enter Try.func28, Try.ntmps28
  go_wp2_with (first | (go_at_call 31; refine (bytes_short hi g xs n s e _ _ HA.out (.inr (.inl (by decide)))).mono ?_; rintro en w1 ⟨rfl, b3, b4⟩; have N3 := Aside0.mk b3; have N4 := Aside0.mk b4; clear b3 b4) | (go_at_call 48; refine (reftake_nil _).mono ?_; rintro en w2 ⟨A2, c2_, rfl, d3⟩; have D3 := Aside0.mk d3; clear d3))
  go_ret
  have hN : RAt hi w2 g xs xs.length true (fstE e 2) := N3.out.below D3.out
  exact ⟨A2, c2_, rfl, hN, N4.out.trans (Upd.of_below D3.out)⟩
theorem words_over (hi g : Nat) (xs : List Int) (n : Nat) (s : Bool) (e m : Int) (w : World) (h : RAt hi w g xs n s e) (hm : ¬ m < 0) (ho : (xs.length : Int) < m) :
    Calls Try.prog 28 #[.pointer (some ⟨g, 0, none⟩), .int .i64 m] w fun en w' => ∃ A' c', en = .returned (.slice A' 0 c') ∧ RAt hi w' g xs xs.length true (fstE e 2) ∧ Upd g w w' := by
  have HA := Aside0.mk h
  obtain ⟨h1, hn, hx, A, c, h2, h3, h4⟩ := h
  obtain ⟨⟨k0, k1, k2, k3⟩, f0, f1, f2, f3⟩ := cells4 h2
  clear h2 h4
  have hu1 := Try.underlying56
  have d1 : decide (m < 0) = false := decide_eq_false hm
  have d2 : decide (m > (xs.length : Int)) = true := decide_eq_true ho
  have d3 : decide ((xs.length : Int) < m) = true := decide_eq_true ho
  go_enter Try.func28, Try.ntmps28
  go_wp2_with (first | (go_at_call 31; refine (bytes_short hi g xs n s e _ _ HA.out (.inr (.inl (by decide)))).mono ?_; rintro en w1 ⟨rfl, b3, b4⟩; have N3 := Aside0.mk b3; have N4 := Aside0.mk b4; clear b3 b4) | (go_at_call 48; refine (reftake_nil _).mono ?_; rintro en w2 ⟨A2, c2_, rfl, d3⟩; have D3 := Aside0.mk d3; clear d3))
  go_ret
  have hN : RAt hi w2 g xs xs.length true (fstE e 2) := N3.out.below D3.out
  exact ⟨A2, c2_, rfl, hN, N4.out.trans (Upd.of_below D3.out)⟩
theorem words_few (hi g : Nat) (xs : List Int) (n : Nat) (s : Bool) (e m : Int) (w : World) (h : RAt hi w g xs n s e) (hm : ¬ m < 0) (ho : ¬ (xs.length : Int) < m) (hs : s = true ∨ (xs.length : Int) - n < m + m) :
    Calls Try.prog 28 #[.pointer (some ⟨g, 0, none⟩), .int .i64 m] w fun en w' => ∃ A' c', en = .returned (.slice A' 0 c') ∧ RAt hi w' g xs xs.length true (fstE e 2) ∧ Upd g w w' := by
  have HA := Aside0.mk h
  obtain ⟨h1, hn, hx, A, c, h2, h3, h4⟩ := h
  obtain ⟨⟨k0, k1, k2, k3⟩, f0, f1, f2, f3⟩ := cells4 h2
  clear h2 h4
  have hu1 := Try.underlying56
  have d1 : decide (m < 0) = false := decide_eq_false hm
  have d2 : decide (m > (xs.length : Int)) = false := decide_eq_false ho
  have d3 : decide ((xs.length : Int) < m) = false := decide_eq_false ho
  have d4 : wrap64 (m + m) = m + m := wrap64_id (by omega) (by omega)
  have HS := Aside0.mk hs
  clear hs
  go_enter Try.func28, Try.ntmps28
  go_wp2_with (first | (go_at_call 31; refine (bytes_short hi g xs n s e _ _ HA.out (HS.out.elim .inl (fun h => .inr (.inr h)))).mono ?_; rintro en w1 ⟨rfl, b3, b4⟩; have N3 := Aside0.mk b3; have N4 := Aside0.mk b4; clear b3 b4) | (go_at_call 48; refine (reftake_nil _).mono ?_; rintro en w2 ⟨A2, c2_, rfl, d3⟩; have D3 := Aside0.mk d3; clear d3))
  go_ret
  have hN : RAt hi w2 g xs xs.length true (fstE e 2) := N3.out.below D3.out
  exact ⟨A2, c2_, rfl, hN, N4.out.trans (Upd.of_below D3.out)⟩
theorem words_short (hi g : Nat) (xs : List Int) (n : Nat) (s : Bool) (e m : Int) (w : World) (h : RAt hi w g xs n s e) (hm : s = true ∨ m < 0 ∨ (xs.length : Int) - n < 2 * m) :
    Calls Try.prog 28 #[.pointer (some ⟨g, 0, none⟩), .int .i64 m] w fun en w' => ∃ A' c', en = .returned (.slice A' 0 c') ∧ RAt hi w' g xs xs.length true (fstE e 2) ∧ Upd g w w' := by
  by_cases c1 : m < 0
  · exact words_neg hi g xs n s e m w h c1
  by_cases c2 : (xs.length : Int) < m
  · exact words_over hi g xs n s e m w h c1 c2
  · exact words_few hi g xs n s e m w h c1 c2 (by rcases hm with h | h | h; exact .inl h; exact absurd h c1; exact .inr (by omega))
theorem words_ok (hi g : Nat) (xs : List Int) (n : Nat) (e : Int) (m : Nat) (w : World) (h : RAt hi w g xs n false e) (hm : 2 * m ≤ xs.length - n) (hb : isBytes xs) :
    Calls Try.prog 28 #[.pointer (some ⟨g, 0, none⟩), .int .i64 m] w fun en w' => ∃ A' c', en = .returned (.slice A' (Take.words ((xs.drop n).take (2 * m))).length c') ∧ (Take.words ((xs.drop n).take (2 * m))).length ≤ c' ∧ Row16 w.heap.size w'.heap.size w' A' (Take.words ((xs.drop n).take (2 * m))) ∧ RAt hi w' g xs (n + 2 * m) false e ∧ Upd g w w' := by
  have hlen : ((xs.drop n).take (2 * m)).length ≤ 1000000 := by have := h.2.2.1; rw [List.length_take, List.length_drop]; omega
  have hbb : isBytes ((xs.drop n).take (2 * m)) := isBytes_take (isBytes_drop hb n) _
  have hB := bytes_ok hi g xs n e (2 * m) w h hm
  rw [show ((2 * m : Nat) : Int) = (m : Int) + (m : Int) by omega] at hB
  have HB := Aside0.mk hB
  have hT := fun (W : World) (A : Option Addr) (c : Nat) (hr : Kd.C (Kd.int .u8) W A ((xs.drop n).take (2 * m)).length ((xs.drop n).take (2 * m))) (hc : ((xs.drop n).take (2 * m)).length ≤ c) => reftake_any A c ((xs.drop n).take (2 * m)) W hr hc hbb hlen
  have HT := Aside0.mk hT
  clear hB hT hlen hbb
  have HA := Aside0.mk h
  obtain ⟨h1, hn, hx, A, c, h2, h3, h4⟩ := h
  obtain ⟨⟨k0, k1, k2, k3⟩, f0, f1, f2, f3⟩ := cells4 h2
  clear h2 h4
  have hu1 := Try.underlying56
  have d1 : decide ((m : Int) < 0) = false := decide_eq_false (by omega)
  have d2 : decide ((m : Int) > (xs.length : Int)) = false := decide_eq_false (by omega)
  have d3 : decide ((xs.length : Int) < (m : Int)) = false := decide_eq_false (by omega)
  have d4 : wrap64 ((m : Int) + (m : Int)) = (m : Int) + (m : Int) := wrap64_id (by omega) (by omega)
  have d5 : ¬ xs.length < m := by omega
  have d6 : decide (xs.length < m) = false := decide_eq_false d5
  clear hm
  generalize hws : Take.words ((xs.drop n).take (2 * m)) = ws at HT ⊢
  clear hws
  generalize (xs.drop n).take (2 * m) = bs at HT HB
  go_enter Try.func28, Try.ntmps28
  go_wp2_with (first | (go_at_call 31; refine HB.out.mono ?_; rintro en w1 ⟨A1, c1_, rfl, b1, b2, b3, b4⟩; have N1 := Aside0.mk b1; have N2 := Aside0.mk b2; have N3 := Aside0.mk b3; have N4 := Aside0.mk b4; clear b1 b2 b3 b4 HB) | (go_at_call 48; refine (HT.out w1 A1 c1_ N2.out.now N1.out).mono ?_; rintro en w2 ⟨A2, c2_, rfl, g1, g2, g3⟩; have D1 := Aside0.mk g1; have D2 := Aside0.mk g2; have D3 := Aside0.mk g3; clear g1 g2 g3))
  go_ret
  exact ⟨A2, c2_, rfl, D1.out, D2.out.wide N4.out.kept.1 (Nat.le_refl _), N3.out.below D3.out, N4.out.trans (Upd.of_below D3.out)⟩
theorem word_ok (hi g : Nat) (xs : List Int) (n : Nat) (e : Int) (w : World) (h : RAt hi w g xs n false e) (hn : n + 2 ≤ xs.length) (hb : isBytes xs) :
    Calls Try.prog 25 #[.pointer (some ⟨g, 0, none⟩)] w fun en w' => en = .returned (.int .u16 (xs.getD n 0 * 256 + xs.getD (n + 1) 0)) ∧ RAt hi w' g xs (n + 2) false e ∧ Upd g w w' := by
  have hL : Take.words ((xs.drop n).take (2 * 1)) = [xs.getD n 0 * 256 + xs.getD (n + 1) 0] := by rw [drop_cons (show n < xs.length by omega) 0, drop_cons (show n + 1 < xs.length by omega) 0]; exact words_two _ _ _
  have hB := words_ok hi g xs n e 1 w h (by omega) hb
  rw [hL] at hB
  have HB := Aside0.mk hB
  clear h hB hL
  generalize xs.getD n 0 * 256 + xs.getD (n + 1) 0 = x at HB ⊢
  go_enter Try.func25, Try.ntmps25
  go_wp2_with (go_at_call 28; refine HB.out.mono ?_; rintro en w1 ⟨A', c', rfl, b1, b2, b3, b4⟩; obtain ⟨ad, rfl, q0⟩ := at_row16 b2 0 (by simp); rw [Addr.add_zero'] at q0; have q1 : w1.cell? ad = some (.int .u16 x) := q0; have N3 := Aside0.mk b3; have N4 := Aside0.mk b4; clear b1 b2 b3 b4 HB q0)
  go_ret
  exact ⟨rfl, N3.out, N4.out⟩
theorem word_short (hi g : Nat) (xs : List Int) (n : Nat) (s : Bool) (e : Int) (w : World) (h : RAt hi w g xs n s e) (hs : s = true ∨ xs.length < n + 2) :
    Calls Try.prog 25 #[.pointer (some ⟨g, 0, none⟩)] w fun en w' => en = .returned (.int .u16 0) ∧ RAt hi w' g xs xs.length true (fstE e 2) ∧ Upd g w w' := by
  have HB := Aside0.mk (words_short hi g xs n s e 1 w h (by rcases hs with h | h; exact .inl h; exact .inr (.inr (by omega))))
  clear h
  go_enter Try.func25, Try.ntmps25
  go_wp2_with (go_at_call 28; refine HB.out.mono ?_; rintro en w1 ⟨A1, c1, rfl, b3, b4⟩; have N3 := Aside0.mk b3; have N4 := Aside0.mk b4; clear b3 b4 HB)
  go_ret
  exact ⟨rfl, N3.out, N4.out⟩
theorem end_any (hi g : Nat) (xs : List Int) (n : Nat) (s : Bool) (e : Int) (w : World) (h : RAt hi w g xs n s e) :
    Calls Try.prog 32 #[.pointer (some ⟨g, 0, none⟩)] w fun en w' => en = .returned (.tuple #[]) ∧ RAt hi w' g xs n s (if n = xs.length then e else fstE e 3) ∧ Upd g w w' := by
  have hn := h.2.1
  have HL := Aside0.mk (left_any hi g xs n s e w h)
  have HN : ∀ W, RAt hi W g xs n s e → Calls Try.prog 26 #[.pointer (some ⟨g, 0, none⟩), .bool (((xs.length : Int) - n) == 0), .int .i64 3] W fun en w' => en = .returned (.tuple #[]) ∧ RAt hi w' g xs n s (if n = xs.length then e else fstE e 3) ∧ Upd g W w' := by
    intro W hW
    by_cases hc : n = xs.length
    · rw [if_pos hc, show (((xs.length : Int) - n) == 0) = true from beq_iff_eq.2 (by omega)]
      exact need_met hi g xs n s e W hW 3
    · rw [if_neg hc, show (((xs.length : Int) - n) == 0) = false from beq_eq_false_iff_ne.2 (by omega)]
      exact need_any hi g xs n s e W hW 3
  generalize (if n = xs.length then e else fstE e 3) = E at HN ⊢
  have HNN := Aside0.mk HN
  clear HN h
  go_enter Try.func32, Try.ntmps32
  go_wp2_with (first | (go_at_call 27; refine HL.out.mono ?_; rintro en w1 ⟨rfl, b1, b2⟩; have N1 := Aside0.mk b1; have N2 := Aside0.mk b2; clear b1 b2 HL) | (go_at_call 26; refine (HNN.out _ N1.out).mono ?_; rintro en w2 ⟨rfl, b1, b2⟩; have N3 := Aside0.mk b1; have N4 := Aside0.mk b2; clear b1 b2 HNN))
  first
  | exact bodyPost_end (results_none rfl _ _ _) rfl ⟨rfl, N3.out, N2.out.trans N4.out⟩
  | exact bodyPost_ret (results_none rfl _ _ _) rfl ⟨rfl, N3.out, N2.out.trans N4.out⟩
end Go.Proofs.Ytalaochocmcbcaa.RCur
end
section
namespace Go.Proofs.Ytalaochocmcbcaa.Cu
open Go.RowKit Go.Proofs.Ytalaochocmcbcaa.E Go.Proofs.Ytalaochocmcbcaa.Cur Go.Proofs.Ytalaochocmcbcaa.RCur Go.Proofs.YtalaochocmcbcaaW.PrintWords Go.Proofs.YtalaochocmcbcaaW.PrintLast Go.Proofs.YtalaochocmcbcaaW.PrintMore
structure Cu where
  xs : List Int
  s : Bool
  e : Int
def Cu.good (c : Cu) : Prop := isBytes c.xs ∧ c.xs.length ≤ 1000000 ∧ (c.s = true → c.xs = [])
def Cu.fail (c : Cu) : Cu := ⟨[], true, fstE c.e 2⟩
def Cu.okB (c : Cu) (n : Int) : Bool := !c.s && decide (0 ≤ n) && decide (n ≤ (c.xs.length : Int))
def Cu.bytesV (c : Cu) (n : Int) : List Int := if c.okB n = true then c.xs.take n.toNat else []
def Cu.bytesS (c : Cu) (n : Int) : Cu := if c.okB n = true then ⟨c.xs.drop n.toNat, c.s, c.e⟩ else c.fail
def Cu.byteV (c : Cu) : Int := (c.bytesV 1).headD 0
def Cu.byteS (c : Cu) : Cu := c.bytesS 1
def Cu.need (c : Cu) (ok : Bool) (f : Int) : Cu := ⟨c.xs, c.s, if c.e = 0 ∧ ok = false then f else c.e⟩
def Cu.fin (c : Cu) : Cu := c.need (decide (c.xs = [])) 3
theorem Cu.good_fail (c : Cu) : c.fail.good := by
  refine ⟨?_, ?_, ?_⟩
  · intro x h; cases h
  · simp [Cu.fail]
  · intro _; rfl
theorem Cu.good_need {c : Cu} (h : c.good) (ok : Bool) (f : Int) : (c.need ok f).good := h
theorem Cu.okB_iff (c : Cu) (n : Int) : c.okB n = true ↔ c.s = false ∧ 0 ≤ n ∧ n ≤ (c.xs.length : Int) := by
  simp [Cu.okB, and_assoc]
theorem Cu.good_bytesS {c : Cu} (h : c.good) (n : Int) : (c.bytesS n).good := by
  unfold Cu.bytesS
  split
  · rename_i hk
    refine ⟨isBytes_drop h.1 _, by have := h.2.1; simp only [List.length_drop]; omega, fun hs => ?_⟩
    rw [((Cu.okB_iff c n).1 hk).1] at hs
    cases hs
  · exact Cu.good_fail c
theorem Cu.good_byteS {c : Cu} (h : c.good) : c.byteS.good := Cu.good_bytesS h 1
theorem Cu.bytes_bytesV {c : Cu} (h : c.good) (n : Int) : isBytes (c.bytesV n) := by
  unfold Cu.bytesV
  split
  · exact isBytes_take h.1 _
  · exact fun x h => by cases h
theorem Cu.byteV_bd {c : Cu} (h : c.good) : 0 ≤ c.byteV ∧ c.byteV < 256 := by
  have := Cu.bytes_bytesV h 1
  unfold Cu.byteV
  cases hv : c.bytesV 1 with
  | nil => simp
  | cons x l => rw [hv] at this; exact this x List.mem_cons_self
theorem Cu.not_okB {c : Cu} {n : Int} (h : ¬ c.okB n = true) : c.s = true ∨ n < 0 ∨ (c.xs.length : Int) < n := by
  rw [Cu.okB_iff] at h
  cases hs : c.s with
  | true => exact .inl rfl
  | false => exact .inr (by have : ¬ (0 ≤ n ∧ n ≤ (c.xs.length : Int)) := fun hh => h ⟨hs, hh.1, hh.2⟩; omega)
def PAt (lo hi : Nat) (w : World) (g : Nat) (c : Cu) : Prop := At lo hi w g c.xs c.s c.e ∧ c.good
theorem PAt.on {lo hi : Nat} {w w' : World} {g : Nat} {c : Cu} {S : Nat → Prop} (h : PAt lo hi w g c) (hk : Kept w w' S) (h1 : ∀ k, S k → k < lo ∨ hi ≤ k) (h2 : ¬ S g) : PAt lo hi w' g c := ⟨h.1.on hk h1 h2, h.2⟩
theorem PAt.below {lo hi : Nat} {w w' : World} {g : Nat} {c : Cu} (h : PAt lo hi w g c) (hb : Below w.heap.size w w') : PAt lo hi w' g c := ⟨h.1.below hb, h.2⟩
theorem p_new (A : Option Addr) (c : Nat) (l : List Int) (w : World) (hr : Kd.C (Kd.int .u8) w A l.length l) (hc : l.length ≤ c) (hs : l.length ≤ 1000000) (hb : isBytes l) :
    Calls Try.prog 20 #[.slice A l.length c] w fun e w' => ∃ g, e = .returned (.pointer (some ⟨g, 0, none⟩)) ∧ w.heap.size ≤ g ∧ PAt w.heap.size g w' g ⟨l, false, 0⟩ ∧ Below w.heap.size w w' ∧ w'.heap.size = g + 1 :=
  (new_any A c l w hr hc hs).mono fun e w' ⟨g, h1, h2, h3, h4, h5⟩ => ⟨g, h1, h2, ⟨h3, hb, hs, fun h => by cases h⟩, h4, h5⟩
theorem p_bytes {lo hi g : Nat} {c : Cu} {w : World} (h : PAt lo hi w g c) (n : Int) :
    Calls Try.prog 47 #[.pointer (some ⟨g, 0, none⟩), .int .i64 n] w fun en w' => ∃ A' c', en = .returned (.slice A' (c.bytesV n).length c') ∧ (c.bytesV n).length ≤ c' ∧ Row w.heap.size w'.heap.size w' A' (c.bytesV n) ∧ PAt lo hi w' g (c.bytesS n) ∧ Upd g w w' := by
  have hg := Cu.good_bytesS h.2 n
  unfold Cu.bytesV PAt
  unfold Cu.bytesS at hg ⊢
  by_cases hk : c.okB n = true
  · rw [if_pos hk] at hg ⊢
    rw [if_pos hk]
    obtain ⟨h1, h2, h3⟩ := (Cu.okB_iff c n).1 hk
    obtain ⟨m, rfl⟩ := Int.eq_ofNat_of_zero_le h2
    have ha := h.1
    rw [h1] at ha
    refine (bytes_ok lo hi g c.xs c.e m w ha (by omega) h.2.2.1).mono ?_
    rintro en w' ⟨A', c', rfl, b1, b2, b3, b4⟩
    refine ⟨A', c', rfl, b1, b2, ⟨?_, hg⟩, b4⟩
    show At lo hi w' g _ c.s c.e
    rw [h1]
    exact b3
  · rw [if_neg hk] at hg ⊢
    rw [if_neg hk]
    refine (Cur.bytes_short lo hi g c.xs c.s c.e n w h.1 (Cu.not_okB hk)).mono ?_
    rintro en w' ⟨rfl, b3, b4⟩
    exact ⟨none, 0, rfl, Nat.le_refl _, Row.nil _ _ _, ⟨b3, hg⟩, b4⟩
theorem one_of {c : Cu} (h : c.okB 1 = true) : ∃ x l, c.xs = x :: l := by
  obtain ⟨_, _, h3⟩ := (Cu.okB_iff c 1).1 h
  cases hx : c.xs with
  | nil => rw [hx] at h3; simp at h3
  | cons x l => exact ⟨x, l, rfl⟩
theorem p_byte {lo hi g : Nat} {c : Cu} {w : World} (h : PAt lo hi w g c) :
    Calls Try.prog 45 #[.pointer (some ⟨g, 0, none⟩)] w fun en w' => en = .returned (.int .u8 c.byteV) ∧ PAt lo hi w' g c.byteS ∧ Upd g w w' := by
  have hg := Cu.good_byteS h.2
  unfold Cu.byteV Cu.bytesV PAt
  unfold Cu.byteS Cu.bytesS at hg ⊢
  by_cases hk : c.okB 1 = true
  · rw [if_pos hk] at hg ⊢
    rw [if_pos hk]
    obtain ⟨x, l, hx⟩ := one_of hk
    have h1 := ((Cu.okB_iff c 1).1 hk).1
    have ha := h.1
    have hl := h.2.2.1
    rw [h1, hx] at ha
    rw [hx] at hl
    refine (byte_ok lo hi g x l c.e w ha hl).mono ?_
    rintro en w' ⟨rfl, b3, b4⟩
    refine ⟨by rw [hx]; rfl, ⟨?_, hg⟩, b4⟩
    show At lo hi w' g (c.xs.drop 1) c.s c.e
    rw [h1, hx]
    exact b3
  · rw [if_neg hk] at hg ⊢
    rw [if_neg hk]
    refine (byte_short lo hi g c.xs c.s c.e w h.1 ?_).mono ?_
    · rcases Cu.not_okB hk with h | h | h
      · exact .inl h
      · omega
      · exact .inr (List.eq_nil_of_length_eq_zero (by omega))
    rintro en w' ⟨rfl, b3, b4⟩
    exact ⟨rfl, ⟨b3, hg⟩, b4⟩
theorem p_need {lo hi g : Nat} {c : Cu} {w : World} (h : PAt lo hi w g c) (ok : Bool) (f : Int) :
    Calls Try.prog 40 #[.pointer (some ⟨g, 0, none⟩), .bool ok, .int .i64 f] w fun en w' => en = .returned (.tuple #[]) ∧ PAt lo hi w' g (c.need ok f) ∧ Upd g w w' :=
  (Cur.need_any lo hi g c.xs c.s c.e ok f w h.1).mono fun en w' ⟨h1, h2, h3⟩ => ⟨h1, ⟨h2, h.2⟩, h3⟩
theorem p_left {lo hi g : Nat} {c : Cu} {w : World} (h : PAt lo hi w g c) :
    Calls Try.prog 44 #[.pointer (some ⟨g, 0, none⟩)] w fun en w' => en = .returned (.int .i64 c.xs.length) ∧ w' = w := Cur.left_any lo hi g c.xs c.s c.e w h.1
theorem p_err {lo hi g : Nat} {c : Cu} {w : World} (h : PAt lo hi w g c) :
    Calls Try.prog 24 #[.pointer (some ⟨g, 0, none⟩)] w fun en w' => en = .returned (.int .i64 c.e) ∧ w' = w := Cur.err_any lo hi g c.xs c.s c.e w h.1
theorem fin_eq (c : Cu) : c.fin = ⟨c.xs, c.s, if c.xs = [] then c.e else fstE c.e 3⟩ := by
  unfold Cu.fin Cu.need fstE
  by_cases hx : c.xs = [] <;> simp [hx]
theorem p_end {lo hi g : Nat} {c : Cu} {w : World} (h : PAt lo hi w g c) :
    Calls Try.prog 23 #[.pointer (some ⟨g, 0, none⟩)] w fun en w' => en = .returned (.tuple #[]) ∧ PAt lo hi w' g c.fin ∧ Upd g w w' := by
  have hg : c.fin.good := Cu.good_need h.2 _ _
  rw [fin_eq] at hg ⊢
  exact (Cur.end_any lo hi g c.xs c.s c.e w h.1).mono fun en w' ⟨h1, h2, h3⟩ => ⟨h1, ⟨h2, hg⟩, h3⟩
def QAt (hi : Nat) (w : World) (g : Nat) (c : Cu) : Prop := ∃ all n, RAt hi w g all n c.s c.e ∧ c.xs = all.drop n ∧ isBytes all ∧ (c.s = true → n = all.length)
theorem QAt.on {hi : Nat} {w w' : World} {g : Nat} {c : Cu} {S : Nat → Prop} (h : QAt hi w g c) (hk : Kept w w' S) (h1 : ∀ k, S k → hi ≤ k) (h2 : ¬ S g) : QAt hi w' g c := by
  obtain ⟨all, n, a1, a2, a3, a4⟩ := h
  exact ⟨all, n, a1.on hk h1 h2, a2, a3, a4⟩
theorem QAt.good {hi : Nat} {w : World} {g : Nat} {c : Cu} (h : QAt hi w g c) : c.good := by
  obtain ⟨all, n, a1, a2, a3, a4⟩ := h
  have := a1.2.2.1
  refine ⟨by rw [a2]; exact isBytes_drop a3 _, by rw [a2, List.length_drop]; omega, fun hs => ?_⟩
  rw [a2, a4 hs, List.drop_length]
theorem QAt.lt {hi : Nat} {w : World} {g : Nat} {c : Cu} (h : QAt hi w g c) : g < w.heap.size := by
  obtain ⟨all, n, a1, _⟩ := h
  exact a1.lt
theorem q_new {w : World} {A : Option Addr} {c : Nat} {l : List Int} (hr : Row 0 w.heap.size w A l) (hc : l.length ≤ c) (hs : l.length ≤ 1000000) (hb : isBytes l) {W : World} (hk : Kept w W (fun _ => False)) :
    QAt w.heap.size (W.alloc (.cells #[.slice A l.length c, .int .i64 0, .bool false, .int .i64 0] 56)) W.heap.size ⟨l, false, 0⟩ :=
  ⟨l, 0, ⟨hk.1, Nat.zero_le _, hs, A, c, blk_new _ _, hc, hr.on ((hk.alloc _).mono fun _ h => h.elim)⟩, rfl, hb, fun h => by cases h⟩
theorem q_left {hi g : Nat} {c : Cu} {w : World} (h : QAt hi w g c) :
    Calls Try.prog 27 #[.pointer (some ⟨g, 0, none⟩)] w fun en w' => en = .returned (.int .i64 c.xs.length) ∧ QAt hi w' g c ∧ Upd g w w' := by
  obtain ⟨all, n, a1, a2, a3, a4⟩ := h
  have hn := a1.2.1
  have e1 : ((all.length : Int) - n) = (c.xs.length : Int) := by rw [a2, List.length_drop]; omega
  refine (RCur.left_any hi g all n c.s c.e w a1).mono ?_
  rintro en w' ⟨rfl, b1, b2⟩
  exact ⟨by rw [e1], ⟨all, n, b1, a2, a3, a4⟩, b2⟩
theorem q_need {hi g : Nat} {c : Cu} {w : World} (h : QAt hi w g c) (ok : Bool) (f : Int) :
    Calls Try.prog 26 #[.pointer (some ⟨g, 0, none⟩), .bool ok, .int .i64 f] w fun en w' => en = .returned (.tuple #[]) ∧ QAt hi w' g (c.need ok f) ∧ Upd g w w' := by
  obtain ⟨all, n, a1, a2, a3, a4⟩ := h
  cases ok with
  | true =>
    refine (RCur.need_met hi g all n c.s c.e w a1 f).mono ?_
    rintro en w' ⟨rfl, b1, b2⟩
    refine ⟨rfl, ⟨all, n, ?_, a2, a3, a4⟩, b2⟩
    simpa [Cu.need] using b1
  | false =>
    refine (RCur.need_any hi g all n c.s c.e w a1 f).mono ?_
    rintro en w' ⟨rfl, b1, b2⟩
    refine ⟨rfl, ⟨all, n, ?_, a2, a3, a4⟩, b2⟩
    simpa [Cu.need, fstE] using b1
theorem q_bytes {hi g : Nat} {c : Cu} {w : World} (h : QAt hi w g c) (n : Int) :
    Calls Try.prog 31 #[.pointer (some ⟨g, 0, none⟩), .int .i64 n] w fun en w' => ∃ A' c', en = .returned (.slice A' (c.bytesV n).length c') ∧ (c.bytesV n).length ≤ c' ∧ Row 0 hi w' A' (c.bytesV n) ∧ QAt hi w' g (c.bytesS n) ∧ Upd g w w' := by
  obtain ⟨all, k, a1, a2, a3, a4⟩ := h
  have hn := a1.2.1
  have hl : c.xs.length = all.length - k := by rw [a2, List.length_drop]
  unfold Cu.bytesV Cu.bytesS
  by_cases hk : c.okB n = true
  · rw [if_pos hk, if_pos hk]
    obtain ⟨h1, h2, h3⟩ := (Cu.okB_iff c n).1 hk
    obtain ⟨m, rfl⟩ := Int.eq_ofNat_of_zero_le h2
    have ha := a1
    rw [h1] at ha
    refine (RCur.bytes_ok hi g all k c.e m w ha (by omega)).mono ?_
    rintro en w' ⟨A', c', rfl, b1, b2, b3, b4⟩
    rw [← a2] at b1 b2
    refine ⟨A', c', by rw [a2]; rfl, b1, b2, ⟨all, k + m, ?_, ?_, a3, ?_⟩, b4⟩
    · show RAt hi w' g all (k + m) c.s c.e
      rw [h1]
      exact b3
    · show c.xs.drop m = _
      rw [a2, List.drop_drop]
    · intro hs
      rw [show c.s = true from hs] at h1
      cases h1
  · rw [if_neg hk, if_neg hk]
    refine (RCur.bytes_short hi g all k c.s c.e n w a1 ?_).mono ?_
    · rcases Cu.not_okB hk with h | h | h
      · exact .inl h
      · exact .inr (.inl h)
      · exact .inr (.inr (by omega))
    rintro en w' ⟨rfl, b3, b4⟩
    exact ⟨none, 0, rfl, Nat.le_refl _, Row.nil _ _ _, ⟨all, all.length, b3, (List.drop_length).symm, a3, fun _ => rfl⟩, b4⟩
theorem q_byte {hi g : Nat} {c : Cu} {w : World} (h : QAt hi w g c) :
    Calls Try.prog 30 #[.pointer (some ⟨g, 0, none⟩)] w fun en w' => en = .returned (.int .u8 c.byteV) ∧ QAt hi w' g c.byteS ∧ Upd g w w' := by
  obtain ⟨all, k, a1, a2, a3, a4⟩ := h
  have hn := a1.2.1
  have hl : c.xs.length = all.length - k := by rw [a2, List.length_drop]
  unfold Cu.byteV Cu.byteS Cu.bytesV Cu.bytesS
  by_cases hk : c.okB 1 = true
  · rw [if_pos hk, if_pos hk]
    obtain ⟨h1, h2, h3⟩ := (Cu.okB_iff c 1).1 hk
    have ha := a1
    rw [h1] at ha
    refine (RCur.byte_ok hi g all k c.e w ha (by omega)).mono ?_
    rintro en w' ⟨rfl, b3, b4⟩
    have e1 : all.getD k 0 = (c.xs.take (1 : Int).toNat).headD 0 := by
      rw [a2, drop_cons (show k < all.length by omega) 0]
      rfl
    refine ⟨by rw [e1], ⟨all, k + 1, ?_, ?_, a3, ?_⟩, b4⟩
    · show RAt hi w' g all (k + 1) c.s c.e
      rw [h1]
      exact b3
    · show c.xs.drop 1 = _
      rw [a2, List.drop_drop]
    · intro hs
      rw [show c.s = true from hs] at h1
      cases h1
  · rw [if_neg hk, if_neg hk]
    refine (RCur.byte_short hi g all k c.s c.e w a1 ?_).mono ?_
    · rcases Cu.not_okB hk with h | h | h
      · exact .inl h
      · omega
      · exact .inr (by omega)
    rintro en w' ⟨rfl, b3, b4⟩
    exact ⟨rfl, ⟨all, all.length, b3, (List.drop_length).symm, a3, fun _ => rfl⟩, b4⟩
theorem q_end {hi g : Nat} {c : Cu} {w : World} (h : QAt hi w g c) :
    Calls Try.prog 32 #[.pointer (some ⟨g, 0, none⟩)] w fun en w' => en = .returned (.tuple #[]) ∧ QAt hi w' g c.fin ∧ Upd g w w' := by
  obtain ⟨all, k, a1, a2, a3, a4⟩ := h
  have hn := a1.2.1
  have e1 : (c.xs = []) = (k = all.length) := by
    rw [a2]
    exact propext ⟨fun h => by have := congrArg List.length h; rw [List.length_drop] at this; simp at this; omega, fun h => by rw [h, List.drop_length]⟩
  rw [fin_eq]
  refine (RCur.end_any hi g all k c.s c.e w a1).mono ?_
  rintro en w' ⟨rfl, b1, b2⟩
  refine ⟨rfl, ⟨all, k, ?_, a2, a3, a4⟩, b2⟩
  show RAt hi w' g all k c.s (if c.xs = [] then c.e else fstE c.e 3)
  by_cases hc : k = all.length
  · rw [if_pos (e1.mpr hc)]
    rw [if_pos hc] at b1
    exact b1
  · rw [if_neg (fun hh => hc (e1.mp hh))]
    rw [if_neg hc] at b1
    exact b1
def Cu.okW (c : Cu) (n : Int) : Bool := !c.s && decide (0 ≤ n) && decide (2 * n ≤ (c.xs.length : Int))
def Cu.wordsV (c : Cu) (n : Int) : List Int := if c.okW n = true then Take.words (c.xs.take (2 * n.toNat)) else []
def Cu.wordsS (c : Cu) (n : Int) : Cu := if c.okW n = true then ⟨c.xs.drop (2 * n.toNat), c.s, c.e⟩ else c.fail
theorem Cu.okW_iff (c : Cu) (n : Int) : c.okW n = true ↔ c.s = false ∧ 0 ≤ n ∧ 2 * n ≤ (c.xs.length : Int) := by
  simp [Cu.okW, and_assoc]
theorem Cu.good_wordsS {c : Cu} (h : c.good) (n : Int) : (c.wordsS n).good := by
  unfold Cu.wordsS
  split
  · rename_i hk
    refine ⟨isBytes_drop h.1 _, by have := h.2.1; simp only [List.length_drop]; omega, fun hs => ?_⟩
    rw [((Cu.okW_iff c n).1 hk).1] at hs
    cases hs
  · exact Cu.good_fail c
theorem Cu.not_okW {c : Cu} {n : Int} (h : ¬ c.okW n = true) : c.s = true ∨ n < 0 ∨ (c.xs.length : Int) < 2 * n := by
  rw [Cu.okW_iff] at h
  cases hs : c.s with
  | true => exact .inl rfl
  | false => exact .inr (by have : ¬ (0 ≤ n ∧ 2 * n ≤ (c.xs.length : Int)) := fun hh => h ⟨hs, hh.1, hh.2⟩; omega)
theorem row16_nil (A : Option Addr) (lo hi : Nat) (w : World) : Row16 lo hi w A [] := fun W' _ => ⟨rfl, Nat.zero_le _, fun h => absurd h (Nat.lt_irrefl 0)⟩
theorem p_words {lo hi g : Nat} {c : Cu} {w : World} (h : PAt lo hi w g c) (n : Int) :
    Calls Try.prog 42 #[.pointer (some ⟨g, 0, none⟩), .int .i64 n] w fun en w' => ∃ A' c', en = .returned (.slice A' (c.wordsV n).length c') ∧ (c.wordsV n).length ≤ c' ∧ Row16 w.heap.size w'.heap.size w' A' (c.wordsV n) ∧ PAt lo hi w' g (c.wordsS n) ∧ Upd g w w' := by
  have hg := Cu.good_wordsS h.2 n
  unfold Cu.wordsV PAt
  unfold Cu.wordsS at hg ⊢
  by_cases hk : c.okW n = true
  · rw [if_pos hk] at hg ⊢
    rw [if_pos hk]
    obtain ⟨h1, h2, h3⟩ := (Cu.okW_iff c n).1 hk
    obtain ⟨m, rfl⟩ := Int.eq_ofNat_of_zero_le h2
    have ha := h.1
    rw [h1] at ha
    refine (Cur.words_ok lo hi g c.xs c.e m w ha (by omega) h.2.2.1 h.2.1).mono ?_
    rintro en w' ⟨A', c', rfl, b1, b2, b3, b4⟩
    refine ⟨A', c', rfl, b1, b2, ⟨?_, hg⟩, b4⟩
    show At lo hi w' g _ c.s c.e
    rw [h1]
    exact b3
  · rw [if_neg hk] at hg ⊢
    rw [if_neg hk]
    refine (Cur.words_short lo hi g c.xs c.s c.e n w h.1 h.2.2.1 (Cu.not_okW hk)).mono ?_
    rintro en w' ⟨A', c', rfl, b3, b4⟩
    exact ⟨A', c', rfl, Nat.zero_le _, row16_nil _ _ _ _, ⟨b3, hg⟩, b4⟩
theorem q_words {hi g : Nat} {c : Cu} {w : World} (h : QAt hi w g c) (n : Int) :
    Calls Try.prog 28 #[.pointer (some ⟨g, 0, none⟩), .int .i64 n] w fun en w' => ∃ A' c', en = .returned (.slice A' (c.wordsV n).length c') ∧ (c.wordsV n).length ≤ c' ∧ Row16 w.heap.size w'.heap.size w' A' (c.wordsV n) ∧ QAt hi w' g (c.wordsS n) ∧ Upd g w w' := by
  obtain ⟨all, k, a1, a2, a3, a4⟩ := h
  have hn := a1.2.1
  have hl : c.xs.length = all.length - k := by rw [a2, List.length_drop]
  unfold Cu.wordsV Cu.wordsS
  by_cases hk : c.okW n = true
  · rw [if_pos hk, if_pos hk]
    obtain ⟨h1, h2, h3⟩ := (Cu.okW_iff c n).1 hk
    obtain ⟨m, rfl⟩ := Int.eq_ofNat_of_zero_le h2
    have ha := a1
    rw [h1] at ha
    refine (RCur.words_ok hi g all k c.e m w ha (by omega) a3).mono ?_
    rintro en w' ⟨A', c', rfl, b1, b2, b3, b4⟩
    rw [← a2] at b1 b2
    refine ⟨A', c', by rw [a2]; rfl, b1, b2, ⟨all, k + 2 * m, ?_, ?_, a3, ?_⟩, b4⟩
    · show RAt hi w' g all (k + 2 * m) c.s c.e
      rw [h1]
      exact b3
    · show c.xs.drop (2 * m) = _
      rw [a2, List.drop_drop]
    · intro hs
      rw [show c.s = true from hs] at h1
      cases h1
  · rw [if_neg hk, if_neg hk]
    refine (RCur.words_short hi g all k c.s c.e n w a1 ?_).mono ?_
    · rcases Cu.not_okW hk with h | h | h
      · exact .inl h
      · exact .inr (.inl h)
      · exact .inr (.inr (by omega))
    rintro en w' ⟨A', c', rfl, b3, b4⟩
    exact ⟨A', c', rfl, Nat.zero_le _, row16_nil _ _ _ _, ⟨all, all.length, b3, (List.drop_length).symm, a3, fun _ => rfl⟩, b4⟩
theorem Take.wordsBd {l : List Int} (h : isBytes l) : ∀ x ∈ Take.words l, 0 ≤ x ∧ x < 65536 := by
  unfold Take.words Take.pre
  split
  · intro x hx
    obtain ⟨j, _, rfl⟩ := List.mem_map.1 hx
    have h1 := isBytes_rd h (2 * j)
    have h2 := isBytes_rd h (2 * j + 1)
    unfold Take.wordAt
    omega
  · intro x hx
    cases hx
theorem Cu.wordsV_bd {c : Cu} (h : c.good) (n : Int) : ∀ x ∈ c.wordsV n, 0 ≤ x ∧ x < 65536 := by
  unfold Cu.wordsV
  split
  · exact Take.wordsBd (isBytes_take h.1 _)
  · intro x hx
    cases hx
def Cu.wordV (c : Cu) : Int := (c.wordsV 1).headD 0
def Cu.wordS (c : Cu) : Cu := c.wordsS 1
theorem Cu.good_wordS {c : Cu} (h : c.good) : c.wordS.good := Cu.good_wordsS h 1
theorem Cu.wordV_bd {c : Cu} (h : c.good) : 0 ≤ c.wordV ∧ c.wordV < 65536 := by
  have := Cu.wordsV_bd h 1
  unfold Cu.wordV
  cases hv : c.wordsV 1 with
  | nil => simp
  | cons x l => rw [hv] at this; exact this x List.mem_cons_self
theorem two_of {c : Cu} (h : c.okW 1 = true) : ∃ x y l, c.xs = x :: y :: l := by
  obtain ⟨_, _, h3⟩ := (Cu.okW_iff c 1).1 h
  match hx : c.xs with
  | [] => rw [hx] at h3; simp at h3
  | [x] => rw [hx] at h3; simp at h3
  | x :: y :: l => exact ⟨x, y, l, rfl⟩
theorem p_word {lo hi g : Nat} {c : Cu} {w : World} (h : PAt lo hi w g c) :
    Calls Try.prog 39 #[.pointer (some ⟨g, 0, none⟩)] w fun en w' => en = .returned (.int .u16 c.wordV) ∧ PAt lo hi w' g c.wordS ∧ Upd g w w' := by
  have hg := Cu.good_wordS h.2
  unfold Cu.wordV Cu.wordsV PAt
  unfold Cu.wordS Cu.wordsS at hg ⊢
  by_cases hk : c.okW 1 = true
  · rw [if_pos hk] at hg ⊢
    rw [if_pos hk]
    obtain ⟨x, y, l, hx⟩ := two_of hk
    have h1 := ((Cu.okW_iff c 1).1 hk).1
    have ha := h.1
    have hl := h.2.2.1
    have hbb := h.2.1
    rw [h1, hx] at ha
    rw [hx] at hl hbb
    refine (Cur.word_ok lo hi g x y l c.e w ha hl hbb).mono ?_
    rintro en w' ⟨rfl, b3, b4⟩
    refine ⟨by rw [hx, show (2 * (1 : Int).toNat) = 2 * 1 from rfl, words_two]; rfl, ⟨?_, hg⟩, b4⟩
    show At lo hi w' g (c.xs.drop 2) c.s c.e
    rw [h1, hx]
    exact b3
  · rw [if_neg hk] at hg ⊢
    rw [if_neg hk]
    refine (Cur.word_short lo hi g c.xs c.s c.e w h.1 h.2.2.1 ?_).mono ?_
    · rcases Cu.not_okW hk with h | h | h
      · exact .inl h
      · omega
      · exact .inr (by omega)
    rintro en w' ⟨rfl, b3, b4⟩
    exact ⟨rfl, ⟨b3, hg⟩, b4⟩
theorem q_word {hi g : Nat} {c : Cu} {w : World} (h : QAt hi w g c) :
    Calls Try.prog 25 #[.pointer (some ⟨g, 0, none⟩)] w fun en w' => en = .returned (.int .u16 c.wordV) ∧ QAt hi w' g c.wordS ∧ Upd g w w' := by
  obtain ⟨all, k, a1, a2, a3, a4⟩ := h
  have hn := a1.2.1
  have hl : c.xs.length = all.length - k := by rw [a2, List.length_drop]
  unfold Cu.wordV Cu.wordS Cu.wordsV Cu.wordsS
  by_cases hk : c.okW 1 = true
  · rw [if_pos hk, if_pos hk]
    obtain ⟨h1, h2, h3⟩ := (Cu.okW_iff c 1).1 hk
    have ha := a1
    rw [h1] at ha
    refine (RCur.word_ok hi g all k c.e w ha (by omega) a3).mono ?_
    rintro en w' ⟨rfl, b3, b4⟩
    have e1 : (all.getD k 0 * 256 + all.getD (k + 1) 0) = (Take.words (c.xs.take (2 * (1 : Int).toNat))).headD 0 := by
      rw [a2, drop_cons (show k < all.length by omega) 0, drop_cons (show k + 1 < all.length by omega) 0, show (2 * (1 : Int).toNat) = 2 * 1 from rfl, words_two]
      rfl
    refine ⟨by rw [e1], ⟨all, k + 2, ?_, ?_, a3, ?_⟩, b4⟩
    · show RAt hi w' g all (k + 2) c.s c.e
      rw [h1]
      exact b3
    · show c.xs.drop 2 = _
      rw [a2, List.drop_drop]
    · intro hs
      rw [show c.s = true from hs] at h1
      cases h1
  · rw [if_neg hk, if_neg hk]
    refine (RCur.word_short hi g all k c.s c.e w a1 ?_).mono ?_
    · rcases Cu.not_okW hk with h | h | h
      · exact .inl h
      · omega
      · exact .inr (by omega)
    rintro en w' ⟨rfl, b3, b4⟩
    exact ⟨rfl, ⟨all, all.length, b3, (List.drop_length).symm, a3, fun _ => rfl⟩, b4⟩
end Go.Proofs.Ytalaochocmcbcaa.Cu
end
section
namespace Go.Proofs.Ytalaochocmcbcaa.Same
open Go.RowKit Go.Proofs.Ytalaochocmcbcaa.P Go.Proofs.Ytalaochocmcbcaa.E Go.Proofs.YtalaochocmcbcaaW.PrintWords Go.Proofs.YtalaochocmcbcaaW.PrintLast Go.Proofs.YtalaochocmcbcaaW.PrintMore
theorem good_code {m : Msg} (h : goodM m) {v : Int} (hv : 0 ≤ v ∧ v < 256) : goodM { m with code := v } := by
  obtain ⟨h1, h2⟩ := h
  refine ⟨?_, h2⟩
  simp only [okM, u8B, u16B, Bool.and_eq_true, decide_eq_true_eq] at h1 ⊢
  simp only [h1, hv, and_self, true_and]
theorem set_code {W : World} {cx : Array Value} {m : Msg} (h : IsMsg W cx m) {v : Int} (hv : 0 ≤ v ∧ v < 256) : IsMsg W (cx.setIfInBounds 0 (.int .u8 v)) { m with code := v } := by
  obtain ⟨A12, c12, A13, c13, A14, c14, A15, c15, A21, c21, rfl, ok, h12, h13, h14, h15, h21⟩ := h
  exact ⟨A12, c12, A13, c13, A14, c14, A15, c15, A21, c21, by simp, good_code ok hv, h12, h13, h14, h15, h21⟩
theorem good_value {m : Msg} (h : goodM m) {v : Int} (hv : 0 ≤ v ∧ v < 65536) : goodM { m with value := v } := by
  obtain ⟨h1, h2⟩ := h
  refine ⟨?_, h2⟩
  simp only [okM, u8B, u16B, Bool.and_eq_true, decide_eq_true_eq] at h1 ⊢
  simp only [h1, hv, and_self, true_and]
theorem set_value {W : World} {cx : Array Value} {m : Msg} (h : IsMsg W cx m) {v : Int} (hv : 0 ≤ v ∧ v < 65536) : IsMsg W (cx.setIfInBounds 4 (.int .u16 v)) { m with value := v } := by
  obtain ⟨A12, c12, A13, c13, A14, c14, A15, c15, A21, c21, rfl, ok, h12, h13, h14, h15, h21⟩ := h
  exact ⟨A12, c12, A13, c13, A14, c14, A15, c15, A21, c21, by simp, good_value ok hv, h12, h13, h14, h15, h21⟩
theorem good_sub {m : Msg} (h : goodM m) {v : Int} (hv : 0 ≤ v ∧ v < 65536) : goodM { m with sub := v } := by
  obtain ⟨h1, h2⟩ := h
  refine ⟨?_, h2⟩
  simp only [okM, u8B, u16B, Bool.and_eq_true, decide_eq_true_eq] at h1 ⊢
  simp only [h1, hv, and_self, true_and]
theorem set_sub {W : World} {cx : Array Value} {m : Msg} (h : IsMsg W cx m) {v : Int} (hv : 0 ≤ v ∧ v < 65536) : IsMsg W (cx.setIfInBounds 8 (.int .u16 v)) { m with sub := v } := by
  obtain ⟨A12, c12, A13, c13, A14, c14, A15, c15, A21, c21, rfl, ok, h12, h13, h14, h15, h21⟩ := h
  exact ⟨A12, c12, A13, c13, A14, c14, A15, c15, A21, c21, by simp, good_sub ok hv, h12, h13, h14, h15, h21⟩
theorem good_status {m : Msg} (h : goodM m) {v : Int} (hv : 0 ≤ v ∧ v < 65536) : goodM { m with status := v } := by
  obtain ⟨h1, h2⟩ := h
  refine ⟨?_, h2⟩
  simp only [okM, u8B, u16B, Bool.and_eq_true, decide_eq_true_eq] at h1 ⊢
  simp only [h1, hv, and_self, true_and]
theorem set_status {W : World} {cx : Array Value} {m : Msg} (h : IsMsg W cx m) {v : Int} (hv : 0 ≤ v ∧ v < 65536) : IsMsg W (cx.setIfInBounds 9 (.int .u16 v)) { m with status := v } := by
  obtain ⟨A12, c12, A13, c13, A14, c14, A15, c15, A21, c21, rfl, ok, h12, h13, h14, h15, h21⟩ := h
  exact ⟨A12, c12, A13, c13, A14, c14, A15, c15, A21, c21, by simp, good_status ok hv, h12, h13, h14, h15, h21⟩
theorem good_events {m : Msg} (h : goodM m) {v : Int} (hv : 0 ≤ v ∧ v < 65536) : goodM { m with events := v } := by
  obtain ⟨h1, h2⟩ := h
  refine ⟨?_, h2⟩
  simp only [okM, u8B, u16B, Bool.and_eq_true, decide_eq_true_eq] at h1 ⊢
  simp only [h1, hv, and_self, true_and]
theorem set_events {W : World} {cx : Array Value} {m : Msg} (h : IsMsg W cx m) {v : Int} (hv : 0 ≤ v ∧ v < 65536) : IsMsg W (cx.setIfInBounds 10 (.int .u16 v)) { m with events := v } := by
  obtain ⟨A12, c12, A13, c13, A14, c14, A15, c15, A21, c21, rfl, ok, h12, h13, h14, h15, h21⟩ := h
  exact ⟨A12, c12, A13, c13, A14, c14, A15, c15, A21, c21, by simp, good_events ok hv, h12, h13, h14, h15, h21⟩
theorem good_messages {m : Msg} (h : goodM m) {v : Int} (hv : 0 ≤ v ∧ v < 65536) : goodM { m with messages := v } := by
  obtain ⟨h1, h2⟩ := h
  refine ⟨?_, h2⟩
  simp only [okM, u8B, u16B, Bool.and_eq_true, decide_eq_true_eq] at h1 ⊢
  simp only [h1, hv, and_self, true_and]
theorem set_messages {W : World} {cx : Array Value} {m : Msg} (h : IsMsg W cx m) {v : Int} (hv : 0 ≤ v ∧ v < 65536) : IsMsg W (cx.setIfInBounds 11 (.int .u16 v)) { m with messages := v } := by
  obtain ⟨A12, c12, A13, c13, A14, c14, A15, c15, A21, c21, rfl, ok, h12, h13, h14, h15, h21⟩ := h
  exact ⟨A12, c12, A13, c13, A14, c14, A15, c15, A21, c21, by simp, good_messages ok hv, h12, h13, h14, h15, h21⟩
theorem set_words {W : World} {cx : Array Value} {m : Msg} (h : IsMsg W cx m) {A : Option Addr} {n : Nat} {l : List Int} (hn : l.length ≤ n) (hg : ∀ x ∈ l, 0 ≤ x ∧ x < 65536) (hr : Kd.C (Kd.int .u16) W A l.length l) : IsMsg W (cx.setIfInBounds 12 (.slice A l.length n)) { m with words := l } := by
  obtain ⟨A12, c12, A13, c13, A14, c14, A15, c15, A21, c21, rfl, ok, h12, h13, h14, h15, h21⟩ := h
  exact ⟨A, n, A13, c13, A14, c14, A15, c15, A21, c21, by simp, ⟨ok.1, hg, ok.2.2⟩, ⟨hr, hn⟩, h13, h14, h15, h21⟩
theorem good_data {m : Msg} (h : goodM m) {l : List Int} (hg : isBytes l) : goodM { m with data := l } := by
  obtain ⟨h1, h2⟩ := h
  refine ⟨?_, h2⟩
  simp only [okM, u8B, u16B, Bool.and_eq_true, decide_eq_true_eq, List.all_eq_true] at h1 ⊢
  exact ⟨⟨h1.1.1, fun x hx => hg x hx⟩, h1.2⟩
theorem set_data {W : World} {cx : Array Value} {m : Msg} (h : IsMsg W cx m) {A : Option Addr} {n : Nat} {l : List Int} (hn : l.length ≤ n) (hg : isBytes l) (hr : Kd.C (Kd.int .u8) W A l.length l) : IsMsg W (cx.setIfInBounds 14 (.slice A l.length n)) { m with data := l } := by
  obtain ⟨A12, c12, A13, c13, A14, c14, A15, c15, A21, c21, rfl, ok, h12, h13, h14, h15, h21⟩ := h
  exact ⟨A12, c12, A13, c13, A, n, A15, c15, A21, c21, by simp, good_data ok hg, h12, h13, ⟨hr, hn⟩, h15, h21⟩
def NilL (cx : Array Value) : Prop := ∀ (i : Nat) A n, (i = 15 ∨ i = 21) → cx[i]? = some (.slice A 0 n) → A = none ∧ n = 0
theorem NilL.set {cx : Array Value} (h : NilL cx) {i : Nat} (hi : i ≠ 15 ∧ i ≠ 21) {v : Value} : NilL (cx.setIfInBounds i v) := by
  intro j A n hj e
  refine h j A n hj ?_
  rwa [Array.getElem?_setIfInBounds_ne (by omega)] at e
end Go.Proofs.Ytalaochocmcbcaa.Same
end
section
namespace Go.Proofs.Ytalaochocmcbcaa.PS
open Go.RowKit Go.Proofs.Ytalaochocmcbcaa.P Go.Proofs.Ytalaochocmcbcaa.E Go.Proofs.Ytalaochocmcbcaa.Cur Go.Proofs.Ytalaochocmcbcaa.RCur Go.Proofs.Ytalaochocmcbcaa.Cu Go.Proofs.Ytalaochocmcbcaa.Same Go.Proofs.YtalaochocmcbcaaW.PrintWords Go.Proofs.YtalaochocmcbcaaW.PrintLast Go.Proofs.YtalaochocmcbcaaW.PrintMore
structure St (w0 : World) (gr g gm : Nat) (w : World) (c : Cu) (m : Msg) : Prop where
  b : Below w0.heap.size w0 w
  cur : ∃ lo hi, PAt lo hi w g c ∧ (gm < lo ∨ hi ≤ gm) ∧ (gr < lo ∨ hi ≤ gr)
  cx : ∃ cx, w.heap[gm]? = some (.cells cx 30 (0, 0)) ∧ ∀ W', Kept w W' (fun k => k = g ∨ k = gm ∨ k = gr) → IsMsg W' cx m
  res : w.heap[gr]? = some (.cells zeroC 30 (0, 0))
  h1 : w0.heap.size ≤ g ∧ w0.heap.size ≤ gm ∧ w0.heap.size ≤ gr
  h2 : gm ≠ g ∧ gr ≠ g ∧ gr ≠ gm
  nl : ∃ cx, w.heap[gm]? = some (.cells cx 30 (0, 0)) ∧ NilL cx
section
variable {w0 w w' : World} {gr g gm : Nat} {c c' : Cu} {m m' : Msg}
theorem St.upd (h : St w0 gr g gm w c m) (k : Upd g w w') (hc : ∃ lo hi, PAt lo hi w' g c' ∧ (gm < lo ∨ hi ≤ gm) ∧ (gr < lo ∨ hi ≤ gr)) : St w0 gr g gm w' c' m := by
  obtain ⟨cx, a1, a2⟩ := h.cx
  refine ⟨h.b.trans (k.below h.h1.1 h.b.size), hc, ⟨cx, blk_kept a1 k.kept h.h2.1, fun W' hk => a2 W' ((k.kept.mono fun j hj => .inl hj).then_ hk (fun j hj => .inl hj))⟩, blk_kept h.res k.kept h.h2.2.1, h.h1, h.h2, by obtain ⟨cy, n1, n2⟩ := h.nl; exact ⟨cy, blk_kept n1 k.kept h.h2.1, n2⟩⟩
theorem St.good (h : St w0 gr g gm w c m) : c.good := by
  obtain ⟨lo, hi, a, _⟩ := h.cur
  exact a.2
theorem St.below (h : St w0 gr g gm w c m) (hb : Below w.heap.size w w') : St w0 gr g gm w' c m := by
  obtain ⟨cx, a1, a2⟩ := h.cx
  refine ⟨h.b.trans (hb.mono h.b.size), ?_, ⟨cx, blk_below a1 hb, fun W' hk => a2 W' ((Kept.of_below hb _).then_ hk (fun j hj => .inl hj))⟩, blk_below h.res hb, h.h1, h.h2, by obtain ⟨cy, n1, n2⟩ := h.nl; exact ⟨cy, blk_below n1 hb, n2⟩⟩
  obtain ⟨lo, hi, a, s1, s2⟩ := h.cur
  exact ⟨lo, hi, a.below hb, s1, s2⟩
theorem St.byte (h : St w0 gr g gm w c m) : Calls Try.prog 45 #[.pointer (some ⟨g, 0, none⟩)] w fun en w' => en = .returned (.int .u8 c.byteV) ∧ St w0 gr g gm w' c.byteS m := by
  obtain ⟨lo, hi, hc, s1, s2⟩ := h.cur
  refine (p_byte hc).mono ?_
  rintro en w' ⟨rfl, b1, b2⟩
  exact ⟨rfl, h.upd b2 ⟨lo, hi, b1, s1, s2⟩⟩
theorem St.bytes (h : St w0 gr g gm w c m) (n : Int) : Calls Try.prog 47 #[.pointer (some ⟨g, 0, none⟩), .int .i64 n] w fun en w' => ∃ A' c', en = .returned (.slice A' (c.bytesV n).length c') ∧ (c.bytesV n).length ≤ c' ∧ (∀ W', Kept w' W' (fun k => k = g ∨ k = gm ∨ k = gr) → Kd.C (Kd.int .u8) W' A' (c.bytesV n).length (c.bytesV n)) ∧ St w0 gr g gm w' (c.bytesS n) m := by
  obtain ⟨cx, a1, a2⟩ := h.cx
  have lm := blk_lt a1
  have lr := blk_lt h.res
  obtain ⟨lo, hi, hc, s1, s2⟩ := h.cur
  refine (p_bytes hc n).mono ?_
  rintro en w' ⟨A', c', rfl, b1, b2, b3, b4⟩
  refine ⟨A', c', rfl, b1, fun W' hk => (b2.on (hk.mono fun j hj => ?_)).now, h.upd b4 ⟨lo, hi, b3, s1, s2⟩⟩
  have lg := hc.1.lt
  rcases hj with rfl | rfl | rfl <;> exact .inl (by omega)
theorem St.words (h : St w0 gr g gm w c m) (n : Int) : Calls Try.prog 42 #[.pointer (some ⟨g, 0, none⟩), .int .i64 n] w fun en w' => ∃ A' c', en = .returned (.slice A' (c.wordsV n).length c') ∧ (c.wordsV n).length ≤ c' ∧ (∀ W', Kept w' W' (fun k => k = g ∨ k = gm ∨ k = gr) → Kd.C (Kd.int .u16) W' A' (c.wordsV n).length (c.wordsV n)) ∧ St w0 gr g gm w' (c.wordsS n) m := by
  obtain ⟨cx, a1, a2⟩ := h.cx
  have lm := blk_lt a1
  have lr := blk_lt h.res
  obtain ⟨lo, hi, hc, s1, s2⟩ := h.cur
  refine (p_words hc n).mono ?_
  rintro en w' ⟨A', c', rfl, b1, b2, b3, b4⟩
  refine ⟨A', c', rfl, b1, fun W' hk => (b2.on (hk.mono fun j hj => ?_)).now, h.upd b4 ⟨lo, hi, b3, s1, s2⟩⟩
  have lg := hc.1.lt
  rcases hj with rfl | rfl | rfl <;> exact .inl (by omega)
theorem St.word (h : St w0 gr g gm w c m) : Calls Try.prog 39 #[.pointer (some ⟨g, 0, none⟩)] w fun en w' => en = .returned (.int .u16 c.wordV) ∧ St w0 gr g gm w' c.wordS m := by
  obtain ⟨lo, hi, hc, s1, s2⟩ := h.cur
  refine (p_word hc).mono ?_
  rintro en w' ⟨rfl, b1, b2⟩
  exact ⟨rfl, h.upd b2 ⟨lo, hi, b1, s1, s2⟩⟩
theorem St.need (h : St w0 gr g gm w c m) (ok : Bool) (f : Int) : Calls Try.prog 40 #[.pointer (some ⟨g, 0, none⟩), .bool ok, .int .i64 f] w fun en w' => en = .returned (.tuple #[]) ∧ St w0 gr g gm w' (c.need ok f) m := by
  obtain ⟨lo, hi, hc, s1, s2⟩ := h.cur
  refine (p_need hc ok f).mono ?_
  rintro en w' ⟨rfl, b1, b2⟩
  exact ⟨rfl, h.upd b2 ⟨lo, hi, b1, s1, s2⟩⟩
theorem St.fin (h : St w0 gr g gm w c m) : Calls Try.prog 23 #[.pointer (some ⟨g, 0, none⟩)] w fun en w' => en = .returned (.tuple #[]) ∧ St w0 gr g gm w' c.fin m := by
  obtain ⟨lo, hi, hc, s1, s2⟩ := h.cur
  refine (p_end hc).mono ?_
  rintro en w' ⟨rfl, b1, b2⟩
  exact ⟨rfl, h.upd b2 ⟨lo, hi, b1, s1, s2⟩⟩
theorem St.left (h : St w0 gr g gm w c m) : Calls Try.prog 44 #[.pointer (some ⟨g, 0, none⟩)] w fun en w' => en = .returned (.int .i64 c.xs.length) ∧ St w0 gr g gm w' c m := by
  obtain ⟨lo, hi, hc, s1, s2⟩ := h.cur
  refine (p_left hc).mono ?_
  rintro en w' ⟨rfl, rfl⟩
  exact ⟨rfl, h⟩
theorem St.err (h : St w0 gr g gm w c m) : Calls Try.prog 24 #[.pointer (some ⟨g, 0, none⟩)] w fun en w' => en = .returned (.int .i64 c.e) ∧ St w0 gr g gm w' c m := by
  obtain ⟨lo, hi, hc, s1, s2⟩ := h.cur
  refine (p_err hc).mono ?_
  rintro en w' ⟨rfl, rfl⟩
  exact ⟨rfl, h⟩
theorem St.put (h : St w0 gr g gm w c m) (i : Nat) (v : Value) (hi : i ≠ 15 ∧ i ≠ 21) (hm : ∀ W' cx, Kept w W' (fun k => k = g ∨ k = gm ∨ k = gr) → IsMsg W' cx m → IsMsg W' (cx.setIfInBounds i v) m') : St w0 gr g gm (w.setCell ⟨gm, i, none⟩ v) c m' := by
  obtain ⟨cx, a1, a2⟩ := h.cx
  have hk : Kept w (w.setCell ⟨gm, i, none⟩ v) (fun k => k = gm) := (Kept.refl w (fun k => k = gm)).setCell (p := ⟨gm, i, none⟩) (.inl rfl) v
  refine ⟨below_set h.b h.h1.2.1, ?_, ⟨_, blk_put a1 i v rfl, fun W' k => ?_⟩, blk_kept h.res hk h.h2.2.2, h.h1, h.h2, by obtain ⟨cy, n1, n2⟩ := h.nl; exact ⟨_, blk_put n1 i v rfl, n2.set hi⟩⟩
  · obtain ⟨lo, hi, a, s1, s2⟩ := h.cur
    exact ⟨lo, hi, a.on hk (fun k e => by rw [e]; exact s1) (fun e => h.h2.1 e.symm), s1, s2⟩
  · have k2 : Kept w W' (fun k => k = g ∨ k = gm ∨ k = gr) := (hk.mono fun j hj => .inr (.inl hj)).then_ k (fun j hj => .inl hj)
    exact hm W' cx k2 (a2 W' k2)
theorem St.put_value (h : St w0 gr g gm w c m) {v : Int} (hv : 0 ≤ v ∧ v < 65536) : St w0 gr g gm (w.setCell ⟨gm, 4, none⟩ (.int .u16 v)) c { m with value := v } :=
  h.put 4 _ (by decide) fun W' cx _ hm => set_value hm hv
theorem St.put_sub (h : St w0 gr g gm w c m) {v : Int} (hv : 0 ≤ v ∧ v < 65536) : St w0 gr g gm (w.setCell ⟨gm, 8, none⟩ (.int .u16 v)) c { m with sub := v } :=
  h.put 8 _ (by decide) fun W' cx _ hm => set_sub hm hv
theorem St.put_status (h : St w0 gr g gm w c m) {v : Int} (hv : 0 ≤ v ∧ v < 65536) : St w0 gr g gm (w.setCell ⟨gm, 9, none⟩ (.int .u16 v)) c { m with status := v } :=
  h.put 9 _ (by decide) fun W' cx _ hm => set_status hm hv
theorem St.put_events (h : St w0 gr g gm w c m) {v : Int} (hv : 0 ≤ v ∧ v < 65536) : St w0 gr g gm (w.setCell ⟨gm, 10, none⟩ (.int .u16 v)) c { m with events := v } :=
  h.put 10 _ (by decide) fun W' cx _ hm => set_events hm hv
theorem St.put_messages (h : St w0 gr g gm w c m) {v : Int} (hv : 0 ≤ v ∧ v < 65536) : St w0 gr g gm (w.setCell ⟨gm, 11, none⟩ (.int .u16 v)) c { m with messages := v } :=
  h.put 11 _ (by decide) fun W' cx _ hm => set_messages hm hv
theorem St.put_words (h : St w0 gr g gm w c m) {A : Option Addr} {n : Nat} {l : List Int} (hn : l.length ≤ n) (hg : ∀ x ∈ l, 0 ≤ x ∧ x < 65536) (hr : ∀ W', Kept w W' (fun k => k = g ∨ k = gm ∨ k = gr) → Kd.C (Kd.int .u16) W' A l.length l) : St w0 gr g gm (w.setCell ⟨gm, 12, none⟩ (.slice A l.length n)) c { m with words := l } :=
  h.put 12 _ (by decide) fun W' cx k hm => set_words hm hn hg (hr W' k)
theorem St.put_data (h : St w0 gr g gm w c m) {A : Option Addr} {n : Nat} {l : List Int} (hn : l.length ≤ n) (hg : isBytes l) (hr : ∀ W', Kept w W' (fun k => k = g ∨ k = gm ∨ k = gr) → Kd.C (Kd.int .u8) W' A l.length l) : St w0 gr g gm (w.setCell ⟨gm, 14, none⟩ (.slice A l.length n)) c { m with data := l } :=
  h.put 14 _ (by decide) fun W' cx k hm => set_data hm hn hg (hr W' k)
theorem St.at_code (h : St w0 gr g gm w c m) : w.cell? ⟨gm, 0, none⟩ = some (.int .u8 m.code) ∧ w.frozen? ⟨gm, 0, none⟩ = false := by
  obtain ⟨cx, a1, a2⟩ := h.cx
  exact ⟨bx_code a1 (a2 w (Kept.refl _ _)), blk_frozen a1 0⟩
theorem St.at_value (h : St w0 gr g gm w c m) : w.cell? ⟨gm, 4, none⟩ = some (.int .u16 m.value) ∧ w.frozen? ⟨gm, 4, none⟩ = false := by
  obtain ⟨cx, a1, a2⟩ := h.cx
  exact ⟨bx_value a1 (a2 w (Kept.refl _ _)), blk_frozen a1 4⟩
theorem St.at_sub (h : St w0 gr g gm w c m) : w.cell? ⟨gm, 8, none⟩ = some (.int .u16 m.sub) ∧ w.frozen? ⟨gm, 8, none⟩ = false := by
  obtain ⟨cx, a1, a2⟩ := h.cx
  exact ⟨bx_sub a1 (a2 w (Kept.refl _ _)), blk_frozen a1 8⟩
theorem St.at_status (h : St w0 gr g gm w c m) : w.cell? ⟨gm, 9, none⟩ = some (.int .u16 m.status) ∧ w.frozen? ⟨gm, 9, none⟩ = false := by
  obtain ⟨cx, a1, a2⟩ := h.cx
  exact ⟨bx_status a1 (a2 w (Kept.refl _ _)), blk_frozen a1 9⟩
theorem St.at_events (h : St w0 gr g gm w c m) : w.cell? ⟨gm, 10, none⟩ = some (.int .u16 m.events) ∧ w.frozen? ⟨gm, 10, none⟩ = false := by
  obtain ⟨cx, a1, a2⟩ := h.cx
  exact ⟨bx_events a1 (a2 w (Kept.refl _ _)), blk_frozen a1 10⟩
theorem St.at_messages (h : St w0 gr g gm w c m) : w.cell? ⟨gm, 11, none⟩ = some (.int .u16 m.messages) ∧ w.frozen? ⟨gm, 11, none⟩ = false := by
  obtain ⟨cx, a1, a2⟩ := h.cx
  exact ⟨bx_messages a1 (a2 w (Kept.refl _ _)), blk_frozen a1 11⟩
theorem St.at_words (h : St w0 gr g gm w c m) : ∃ A n, w.cell? ⟨gm, 12, none⟩ = some (.slice A m.words.length n) ∧ w.frozen? ⟨gm, 12, none⟩ = false := by
  obtain ⟨cx, a1, a2⟩ := h.cx
  obtain ⟨A12, c12, A13, c13, A14, c14, A15, c15, A21, c21, l, _⟩ := (a2 w (Kept.refl _ _)).lists
  exact ⟨A12, c12, (blk_cell a1 12).trans l.1, blk_frozen a1 12⟩
theorem St.at_data (h : St w0 gr g gm w c m) : ∃ A n, w.cell? ⟨gm, 14, none⟩ = some (.slice A m.data.length n) ∧ w.frozen? ⟨gm, 14, none⟩ = false := by
  obtain ⟨cx, a1, a2⟩ := h.cx
  obtain ⟨A12, c12, A13, c13, A14, c14, A15, c15, A21, c21, l, _⟩ := (a2 w (Kept.refl _ _)).lists
  exact ⟨A14, c14, (blk_cell a1 14).trans l.2.2.1, blk_frozen a1 14⟩
theorem St.held (h : St w0 gr g gm w c m) : Held w0 [(gr, zeroC)] w := ⟨h.b, fun p hp => by obtain rfl := List.mem_singleton.1 hp; exact ⟨h.h1.2.2, h.res⟩, List.pairwise_singleton _ _⟩
theorem St.held2 (h : St w0 gr g gm w c m) : ∃ cx, Held w0 [(gr, zeroC), (gm, cx)] w ∧ cx.size = 22 ∧ ∀ w', Up1 gr w w' → IsMsg w' cx m := by
  obtain ⟨cx, a1, a2⟩ := h.cx
  refine ⟨cx, ⟨h.b, fun p hp => ?_, ?_⟩, (a2 w (Kept.refl _ _)).size, fun w' hu => a2 w' (hu.kept.mono fun j hj => .inr (.inr hj))⟩
  · rcases List.mem_cons.1 hp with rfl | hp
    · exact ⟨h.h1.2.2, h.res⟩
    · obtain rfl := List.mem_singleton.1 hp
      exact ⟨h.h1.2.1, a1⟩
  · refine List.pairwise_cons.2 ⟨fun q hq => ?_, List.pairwise_singleton _ _⟩
    obtain rfl := List.mem_singleton.1 hq
    exact h.h2.2.2
end
theorem zero_nil : NilL zeroC := by
  intro i A n hi e
  rcases hi with rfl | rfl <;> exact ⟨(Value.slice.inj (Option.some.inj e)).1.symm, (Value.slice.inj (Option.some.inj e)).2.2.symm⟩
structure Nw (w0 : World) (gr g : Nat) (w : World) (c : Cu) : Prop where
  b : Below w0.heap.size w0 w
  cur : ∃ lo, PAt lo g w g c ∧ gr < lo
  res : w.heap[gr]? = some (.cells zeroC 30 (0, 0))
  h1 : w0.heap.size ≤ g ∧ w0.heap.size ≤ gr
end Go.Proofs.Ytalaochocmcbcaa.PS
end
section
namespace Go.Proofs.Ytalaochocmcbcaa.QS
open Go.RowKit Go.Proofs.Ytalaochocmcbcaa.P Go.Proofs.Ytalaochocmcbcaa.E Go.Proofs.Ytalaochocmcbcaa.Cur Go.Proofs.Ytalaochocmcbcaa.RCur Go.Proofs.Ytalaochocmcbcaa.Cu Go.Proofs.Ytalaochocmcbcaa.Same Go.Proofs.YtalaochocmcbcaaW.PrintWords Go.Proofs.YtalaochocmcbcaaW.PrintLast Go.Proofs.YtalaochocmcbcaaW.PrintMore
structure St (w0 : World) (gr g gm : Nat) (w : World) (c : Cu) (m : Msg) : Prop where
  b : Below w0.heap.size w0 w
  cur : QAt w0.heap.size w g c
  cx : ∃ cx, w.heap[gm]? = some (.cells cx 30 (0, 0)) ∧ ∀ W', Kept w W' (fun k => k = g ∨ k = gm ∨ k = gr) → IsMsg W' cx m
  res : w.heap[gr]? = some (.cells zeroC 30 (0, 0))
  h1 : w0.heap.size ≤ g ∧ w0.heap.size ≤ gm ∧ w0.heap.size ≤ gr
  h2 : gm ≠ g ∧ gr ≠ g ∧ gr ≠ gm
  nl : ∃ cx, w.heap[gm]? = some (.cells cx 30 (0, 0)) ∧ NilL cx
section
variable {w0 w w' : World} {gr g gm : Nat} {c c' : Cu} {m m' : Msg}
theorem St.upd (h : St w0 gr g gm w c m) (k : Upd g w w') (hc : QAt w0.heap.size w' g c') : St w0 gr g gm w' c' m := by
  obtain ⟨cx, a1, a2⟩ := h.cx
  refine ⟨h.b.trans (k.below h.h1.1 h.b.size), hc, ⟨cx, blk_kept a1 k.kept h.h2.1, fun W' hk => a2 W' ((k.kept.mono fun j hj => .inl hj).then_ hk (fun j hj => .inl hj))⟩, blk_kept h.res k.kept h.h2.2.1, h.h1, h.h2, by obtain ⟨cy, n1, n2⟩ := h.nl; exact ⟨cy, blk_kept n1 k.kept h.h2.1, n2⟩⟩
theorem St.good (h : St w0 gr g gm w c m) : c.good := by
  exact QAt.good h.cur
theorem St.below (h : St w0 gr g gm w c m) (hb : Below w.heap.size w w') : St w0 gr g gm w' c m := by
  obtain ⟨cx, a1, a2⟩ := h.cx
  refine ⟨h.b.trans (hb.mono h.b.size), ?_, ⟨cx, blk_below a1 hb, fun W' hk => a2 W' ((Kept.of_below hb _).then_ hk (fun j hj => .inl hj))⟩, blk_below h.res hb, h.h1, h.h2, by obtain ⟨cy, n1, n2⟩ := h.nl; exact ⟨cy, blk_below n1 hb, n2⟩⟩
  exact h.cur.on (S := fun _ => False) (Kept.of_below hb _) (fun _ h => h.elim) (fun h => h)
theorem St.byte (h : St w0 gr g gm w c m) : Calls Try.prog 30 #[.pointer (some ⟨g, 0, none⟩)] w fun en w' => en = .returned (.int .u8 c.byteV) ∧ St w0 gr g gm w' c.byteS m := by
  have hc := h.cur
  refine (q_byte hc).mono ?_
  rintro en w' ⟨rfl, b1, b2⟩
  exact ⟨rfl, h.upd b2 b1⟩
theorem St.bytes (h : St w0 gr g gm w c m) (n : Int) : Calls Try.prog 31 #[.pointer (some ⟨g, 0, none⟩), .int .i64 n] w fun en w' => ∃ A' c', en = .returned (.slice A' (c.bytesV n).length c') ∧ (c.bytesV n).length ≤ c' ∧ (∀ W', Kept w' W' (fun k => k = g ∨ k = gm ∨ k = gr) → Kd.C (Kd.int .u8) W' A' (c.bytesV n).length (c.bytesV n)) ∧ St w0 gr g gm w' (c.bytesS n) m := by
  obtain ⟨cx, a1, a2⟩ := h.cx
  have lm := blk_lt a1
  have lr := blk_lt h.res
  have hc := h.cur
  refine (q_bytes hc n).mono ?_
  rintro en w' ⟨A', c', rfl, b1, b2, b3, b4⟩
  refine ⟨A', c', rfl, b1, fun W' hk => (b2.on (hk.mono fun j hj => ?_)).now, h.upd b4 b3⟩
  have := h.h1
  rcases hj with rfl | rfl | rfl <;> exact .inr (by omega)
theorem St.words (h : St w0 gr g gm w c m) (n : Int) : Calls Try.prog 28 #[.pointer (some ⟨g, 0, none⟩), .int .i64 n] w fun en w' => ∃ A' c', en = .returned (.slice A' (c.wordsV n).length c') ∧ (c.wordsV n).length ≤ c' ∧ (∀ W', Kept w' W' (fun k => k = g ∨ k = gm ∨ k = gr) → Kd.C (Kd.int .u16) W' A' (c.wordsV n).length (c.wordsV n)) ∧ St w0 gr g gm w' (c.wordsS n) m := by
  obtain ⟨cx, a1, a2⟩ := h.cx
  have lm := blk_lt a1
  have lr := blk_lt h.res
  have hc := h.cur
  refine (q_words hc n).mono ?_
  rintro en w' ⟨A', c', rfl, b1, b2, b3, b4⟩
  refine ⟨A', c', rfl, b1, fun W' hk => (b2.on (hk.mono fun j hj => ?_)).now, h.upd b4 b3⟩
  have lg := QAt.lt hc
  rcases hj with rfl | rfl | rfl <;> exact .inl (by omega)
theorem St.word (h : St w0 gr g gm w c m) : Calls Try.prog 25 #[.pointer (some ⟨g, 0, none⟩)] w fun en w' => en = .returned (.int .u16 c.wordV) ∧ St w0 gr g gm w' c.wordS m := by
  have hc := h.cur
  refine (q_word hc).mono ?_
  rintro en w' ⟨rfl, b1, b2⟩
  exact ⟨rfl, h.upd b2 b1⟩
theorem St.need (h : St w0 gr g gm w c m) (ok : Bool) (f : Int) : Calls Try.prog 26 #[.pointer (some ⟨g, 0, none⟩), .bool ok, .int .i64 f] w fun en w' => en = .returned (.tuple #[]) ∧ St w0 gr g gm w' (c.need ok f) m := by
  have hc := h.cur
  refine (q_need hc ok f).mono ?_
  rintro en w' ⟨rfl, b1, b2⟩
  exact ⟨rfl, h.upd b2 b1⟩
theorem St.fin (h : St w0 gr g gm w c m) : Calls Try.prog 32 #[.pointer (some ⟨g, 0, none⟩)] w fun en w' => en = .returned (.tuple #[]) ∧ St w0 gr g gm w' c.fin m := by
  have hc := h.cur
  refine (q_end hc).mono ?_
  rintro en w' ⟨rfl, b1, b2⟩
  exact ⟨rfl, h.upd b2 b1⟩
theorem St.left (h : St w0 gr g gm w c m) : Calls Try.prog 27 #[.pointer (some ⟨g, 0, none⟩)] w fun en w' => en = .returned (.int .i64 c.xs.length) ∧ St w0 gr g gm w' c m := by
  have hc := h.cur
  refine (q_left hc).mono ?_
  rintro en w' ⟨rfl, b1, b2⟩
  exact ⟨rfl, h.upd b2 b1⟩
theorem St.put (h : St w0 gr g gm w c m) (i : Nat) (v : Value) (hi : i ≠ 15 ∧ i ≠ 21) (hm : ∀ W' cx, Kept w W' (fun k => k = g ∨ k = gm ∨ k = gr) → IsMsg W' cx m → IsMsg W' (cx.setIfInBounds i v) m') : St w0 gr g gm (w.setCell ⟨gm, i, none⟩ v) c m' := by
  obtain ⟨cx, a1, a2⟩ := h.cx
  have hk : Kept w (w.setCell ⟨gm, i, none⟩ v) (fun k => k = gm) := (Kept.refl w (fun k => k = gm)).setCell (p := ⟨gm, i, none⟩) (.inl rfl) v
  refine ⟨below_set h.b h.h1.2.1, ?_, ⟨_, blk_put a1 i v rfl, fun W' k => ?_⟩, blk_kept h.res hk h.h2.2.2, h.h1, h.h2, by obtain ⟨cy, n1, n2⟩ := h.nl; exact ⟨_, blk_put n1 i v rfl, n2.set hi⟩⟩
  · exact h.cur.on hk (fun k e => by rw [e]; exact h.h1.2.1) (fun e => h.h2.1 e.symm)
  · have k2 : Kept w W' (fun k => k = g ∨ k = gm ∨ k = gr) := (hk.mono fun j hj => .inr (.inl hj)).then_ k (fun j hj => .inl hj)
    exact hm W' cx k2 (a2 W' k2)
theorem St.put_value (h : St w0 gr g gm w c m) {v : Int} (hv : 0 ≤ v ∧ v < 65536) : St w0 gr g gm (w.setCell ⟨gm, 4, none⟩ (.int .u16 v)) c { m with value := v } :=
  h.put 4 _ (by decide) fun W' cx _ hm => set_value hm hv
theorem St.put_sub (h : St w0 gr g gm w c m) {v : Int} (hv : 0 ≤ v ∧ v < 65536) : St w0 gr g gm (w.setCell ⟨gm, 8, none⟩ (.int .u16 v)) c { m with sub := v } :=
  h.put 8 _ (by decide) fun W' cx _ hm => set_sub hm hv
theorem St.put_status (h : St w0 gr g gm w c m) {v : Int} (hv : 0 ≤ v ∧ v < 65536) : St w0 gr g gm (w.setCell ⟨gm, 9, none⟩ (.int .u16 v)) c { m with status := v } :=
  h.put 9 _ (by decide) fun W' cx _ hm => set_status hm hv
theorem St.put_events (h : St w0 gr g gm w c m) {v : Int} (hv : 0 ≤ v ∧ v < 65536) : St w0 gr g gm (w.setCell ⟨gm, 10, none⟩ (.int .u16 v)) c { m with events := v } :=
  h.put 10 _ (by decide) fun W' cx _ hm => set_events hm hv
theorem St.put_messages (h : St w0 gr g gm w c m) {v : Int} (hv : 0 ≤ v ∧ v < 65536) : St w0 gr g gm (w.setCell ⟨gm, 11, none⟩ (.int .u16 v)) c { m with messages := v } :=
  h.put 11 _ (by decide) fun W' cx _ hm => set_messages hm hv
theorem St.put_words (h : St w0 gr g gm w c m) {A : Option Addr} {n : Nat} {l : List Int} (hn : l.length ≤ n) (hg : ∀ x ∈ l, 0 ≤ x ∧ x < 65536) (hr : ∀ W', Kept w W' (fun k => k = g ∨ k = gm ∨ k = gr) → Kd.C (Kd.int .u16) W' A l.length l) : St w0 gr g gm (w.setCell ⟨gm, 12, none⟩ (.slice A l.length n)) c { m with words := l } :=
  h.put 12 _ (by decide) fun W' cx k hm => set_words hm hn hg (hr W' k)
theorem St.put_data (h : St w0 gr g gm w c m) {A : Option Addr} {n : Nat} {l : List Int} (hn : l.length ≤ n) (hg : isBytes l) (hr : ∀ W', Kept w W' (fun k => k = g ∨ k = gm ∨ k = gr) → Kd.C (Kd.int .u8) W' A l.length l) : St w0 gr g gm (w.setCell ⟨gm, 14, none⟩ (.slice A l.length n)) c { m with data := l } :=
  h.put 14 _ (by decide) fun W' cx k hm => set_data hm hn hg (hr W' k)
theorem St.at_value (h : St w0 gr g gm w c m) : w.cell? ⟨gm, 4, none⟩ = some (.int .u16 m.value) ∧ w.frozen? ⟨gm, 4, none⟩ = false := by
  obtain ⟨cx, a1, a2⟩ := h.cx
  exact ⟨bx_value a1 (a2 w (Kept.refl _ _)), blk_frozen a1 4⟩
theorem St.at_sub (h : St w0 gr g gm w c m) : w.cell? ⟨gm, 8, none⟩ = some (.int .u16 m.sub) ∧ w.frozen? ⟨gm, 8, none⟩ = false := by
  obtain ⟨cx, a1, a2⟩ := h.cx
  exact ⟨bx_sub a1 (a2 w (Kept.refl _ _)), blk_frozen a1 8⟩
theorem St.at_status (h : St w0 gr g gm w c m) : w.cell? ⟨gm, 9, none⟩ = some (.int .u16 m.status) ∧ w.frozen? ⟨gm, 9, none⟩ = false := by
  obtain ⟨cx, a1, a2⟩ := h.cx
  exact ⟨bx_status a1 (a2 w (Kept.refl _ _)), blk_frozen a1 9⟩
theorem St.at_events (h : St w0 gr g gm w c m) : w.cell? ⟨gm, 10, none⟩ = some (.int .u16 m.events) ∧ w.frozen? ⟨gm, 10, none⟩ = false := by
  obtain ⟨cx, a1, a2⟩ := h.cx
  exact ⟨bx_events a1 (a2 w (Kept.refl _ _)), blk_frozen a1 10⟩
theorem St.at_messages (h : St w0 gr g gm w c m) : w.cell? ⟨gm, 11, none⟩ = some (.int .u16 m.messages) ∧ w.frozen? ⟨gm, 11, none⟩ = false := by
  obtain ⟨cx, a1, a2⟩ := h.cx
  exact ⟨bx_messages a1 (a2 w (Kept.refl _ _)), blk_frozen a1 11⟩
theorem St.at_words (h : St w0 gr g gm w c m) : ∃ A n, w.cell? ⟨gm, 12, none⟩ = some (.slice A m.words.length n) ∧ w.frozen? ⟨gm, 12, none⟩ = false := by
  obtain ⟨cx, a1, a2⟩ := h.cx
  obtain ⟨A12, c12, A13, c13, A14, c14, A15, c15, A21, c21, l, _⟩ := (a2 w (Kept.refl _ _)).lists
  exact ⟨A12, c12, (blk_cell a1 12).trans l.1, blk_frozen a1 12⟩
theorem St.at_data (h : St w0 gr g gm w c m) : ∃ A n, w.cell? ⟨gm, 14, none⟩ = some (.slice A m.data.length n) ∧ w.frozen? ⟨gm, 14, none⟩ = false := by
  obtain ⟨cx, a1, a2⟩ := h.cx
  obtain ⟨A12, c12, A13, c13, A14, c14, A15, c15, A21, c21, l, _⟩ := (a2 w (Kept.refl _ _)).lists
  exact ⟨A14, c14, (blk_cell a1 14).trans l.2.2.1, blk_frozen a1 14⟩
theorem St.held (h : St w0 gr g gm w c m) : Held w0 [(gr, zeroC)] w := ⟨h.b, fun p hp => by obtain rfl := List.mem_singleton.1 hp; exact ⟨h.h1.2.2, h.res⟩, List.pairwise_singleton _ _⟩
theorem St.held2 (h : St w0 gr g gm w c m) : ∃ cx, Held w0 [(gr, zeroC), (gm, cx)] w ∧ cx.size = 22 ∧ ∀ w', Up1 gr w w' → IsMsg w' cx m := by
  obtain ⟨cx, a1, a2⟩ := h.cx
  refine ⟨cx, ⟨h.b, fun p hp => ?_, ?_⟩, (a2 w (Kept.refl _ _)).size, fun w' hu => a2 w' (hu.kept.mono fun j hj => .inr (.inr hj))⟩
  · rcases List.mem_cons.1 hp with rfl | hp
    · exact ⟨h.h1.2.2, h.res⟩
    · obtain rfl := List.mem_singleton.1 hp
      exact ⟨h.h1.2.1, a1⟩
  · refine List.pairwise_cons.2 ⟨fun q hq => ?_, List.pairwise_singleton _ _⟩
    obtain rfl := List.mem_singleton.1 hq
    exact h.h2.2.2
end
theorem zero_nil : NilL zeroC := by
  intro i A n hi e
  rcases hi with rfl | rfl <;> exact ⟨(Value.slice.inj (Option.some.inj e)).1.symm, (Value.slice.inj (Option.some.inj e)).2.2.symm⟩
theorem ev_cur {ops : Array Oper} {rest : List Oper} {o : Oper} {a : Act} {w : World} {Q : Exit → Act → World → Prop} {A : Option Addr} {n c : Nat} {y : Operand} (ho : o.op = .box 56 y) (hgd : o.guard = none) (hy : a.eval y = .agg #[.slice A n c, .int .i64 0, .bool false, .int .i64 0])
    (h : ∀ g w1, g = w.heap.size → w1 = w.alloc (.cells #[.slice A n c, .int .i64 0, .bool false, .int .i64 0] 56) → wpList Try.prog ops Q rest (a.put o.dst (.pointer (some ⟨g, 0, none⟩))) w1) : wpList Try.prog ops Q (o :: rest) a w := by
  refine Kd.event_run hgd ?_ (h _ _ rfl rfl)
  unfold execOp
  rw [ho]
  simp only [hy]
  rfl
structure Nw (w0 : World) (gr g : Nat) (w : World) (c : Cu) : Prop where
  b : Below w0.heap.size w0 w
  cur : QAt w0.heap.size w g c
  res : w.heap[gr]? = some (.cells zeroC 30 (0, 0))
  h1 : w0.heap.size ≤ g ∧ w0.heap.size ≤ gr
  h2 : gr ≠ g
theorem Nw.first {w0 w1 w2 : World} {gr g : Nat} {A : Option Addr} {n : Nat} {l : List Int} (hr : Kd.C (Kd.int .u8) w0 A l.length l) (hc : l.length ≤ n) (hs : l.length ≤ 1000000) (hbb : isBytes l) (hg : gr = w0.heap.size) (hk : w1.heap[gr]? = some (.cells zeroC 30 (0, 0))) (hb : Below w0.heap.size w0 w1)
    (h1 : g = w1.heap.size) (h2 : w2 = w1.alloc (.cells #[.slice A l.length n, .int .i64 0, .bool false, .int .i64 0] 56)) : Nw w0 gr g w2 ⟨l, false, 0⟩ := by
  have hrow : Row 0 w0.heap.size w0 A l := Kd.C_kept_came (Kd.heap_int .u8) hr (Below.refl _ _) (fun k hk => by omega)
  have hl := blk_lt hk
  have hq := q_new hrow hc hs hbb (W := w1) (Kept.of_below hb _)
  have hb2 : Below w1.heap.size w1 w2 := by rw [h2]; exact below_alloc (Below.refl _ _) _
  exact ⟨hb.trans (hb2.mono hb.size), by rw [h1, h2]; exact hq, blk_below hk hb2, ⟨by rw [h1]; exact hb.size, by omega⟩, by omega⟩
theorem Nw.new {w0 w w' : World} {gr g gm : Nat} {c : Cu} {m : Msg} {cx : Array Value} (h : Nw w0 gr g w c) (hg : gm = w.heap.size) (hk : w'.heap[gm]? = some (.cells cx 30 (0, 0))) (hb : Below w.heap.size w w') (M : ∀ W, IsMsg W cx m) (nl : NilL cx) : St w0 gr g gm w' c m := by
  have lg := QAt.lt h.cur
  have lr := blk_lt h.res
  exact ⟨h.b.trans (hb.mono h.b.size), h.cur.on (S := fun _ => False) (Kept.of_below hb _) (fun _ h => h.elim) (fun h => h), ⟨cx, hk, fun W' _ => M W'⟩, blk_below h.res hb, ⟨h.h1.1, by have := h.b.size; omega, h.h1.2⟩, ⟨by omega, h.h2, by omega⟩, ⟨cx, hk, nl⟩⟩
theorem St.blk {w0 w : World} {gr g gm : Nat} {c : Cu} {m : Msg} (h : St w0 gr g gm w c m) : ∃ v0 v1 v2, w.heap[g]? = some (.cells #[v0, v1, v2, .int .i64 c.e] 56 (0, 0)) := by
  obtain ⟨all, n, ⟨_, _, _, A, k, a1, _⟩, _⟩ := h.cur
  exact ⟨_, _, _, a1⟩
end Go.Proofs.Ytalaochocmcbcaa.QS
end
section
namespace Go.Proofs.Ytalaochocmcbcaa.Cu
open Go.RowKit Go.Proofs.Ytalaochocmcbcaa.E Go.Proofs.Ytalaochocmcbcaa.Cur Go.Proofs.YtalaochocmcbcaaW.PrintWords Go.Proofs.YtalaochocmcbcaaW.PrintLast Go.Proofs.YtalaochocmcbcaaW.PrintMore
def cu (l : List Int) : Cu := ⟨l, false, 0⟩
theorem need_true (c : Cu) (f : Int) : c.need true f = c := by unfold Cu.need; simp
theorem need_dead {c : Cu} (h : c.e ≠ 0) (ok : Bool) (f : Int) : c.need ok f = c := by
  unfold Cu.need
  rw [if_neg (fun hh => h hh.1)]
theorem bytesS_dead {c : Cu} (h : c.e ≠ 0) (n : Int) : (c.bytesS n).e = c.e := by
  unfold Cu.bytesS
  split
  · rfl
  · simp only [Cu.fail, fstE]
    rw [if_neg h]
theorem need_ok {c : Cu} {ok : Bool} {f : Int} (hf : f ≠ 0) (h : (c.need ok f).e = 0) : c.e = 0 ∧ ok = true ∧ c.need ok f = c := by
  cases ok with
  | true => rw [need_true] at h ⊢; exact ⟨h, rfl, rfl⟩
  | false =>
    by_cases he : c.e = 0
    · exfalso
      unfold Cu.need at h
      rw [if_pos ⟨he, rfl⟩] at h
      exact hf h
    · rw [need_dead he] at h
      exact absurd h he
theorem need_ok' {xs : List Int} {ok : Bool} {f : Int} (h : ((cu xs).need ok f).e = 0) : (cu xs).need ok f = cu xs := by
  cases ok with
  | true => exact need_true _ _
  | false =>
    unfold Cu.need cu at h ⊢
    simp only [and_self, if_true] at h ⊢
    rw [h]
theorem bytes_ok {c : Cu} {n : Int} (h : (c.bytesS n).e = 0) : c.e = 0 ∧ c.s = false ∧ 0 ≤ n ∧ n ≤ (c.xs.length : Int) ∧ c.bytesS n = cu (c.xs.drop n.toNat) ∧ c.bytesV n = c.xs.take n.toNat := by
  have he : c.e = 0 := by
    by_cases he : c.e = 0
    · exact he
    · rw [bytesS_dead he] at h; exact h
  by_cases hk : c.okB n = true
  · obtain ⟨h1, h2, h3⟩ := (Cu.okB_iff c n).1 hk
    refine ⟨he, h1, h2, h3, ?_, ?_⟩
    · unfold Cu.bytesS cu; rw [if_pos hk, h1, he]
    · unfold Cu.bytesV; rw [if_pos hk]
  · exfalso
    unfold Cu.bytesS at h
    rw [if_neg hk] at h
    simp only [Cu.fail, fstE] at h
    rw [if_pos he] at h
    exact absurd h (by decide)
theorem byte_ok {c : Cu} (h : c.byteS.e = 0) : c.e = 0 ∧ c.s = false ∧ ∃ t, c.xs = c.byteV :: t ∧ c.byteS = cu t := by
  obtain ⟨h1, h2, h3, h4, h5, h6⟩ := bytes_ok (n := 1) h
  cases hx : c.xs with
  | nil => rw [hx] at h4; simp at h4
  | cons x t =>
    refine ⟨h1, h2, t, ?_, ?_⟩
    · unfold Cu.byteV; rw [h6, hx]; rfl
    · show c.bytesS 1 = _
      rw [h5, hx]; rfl
theorem fin_ok {c : Cu} (h : c.fin.e = 0) : c.e = 0 ∧ c.xs = [] := by
  obtain ⟨h1, h2, h3⟩ := need_ok (by decide) h
  exact ⟨h1, by simpa using h2⟩
theorem okB_cu (l : List Int) (n : Nat) (h : n ≤ l.length) : (cu l).okB (n : Int) = true := by
  rw [Cu.okB_iff]
  exact ⟨rfl, by omega, by show (n : Int) ≤ (l.length : Int); omega⟩
theorem fin_cu_cons (x : Int) (t : List Int) : (cu (x :: t)).fin.e = 3 := by
  show ((cu (x :: t)).need _ 3).e = 3
  unfold Cu.need cu
  simp
section
variable {α β : Type}
def Rd.ret (a : α) : (Cu → Cu × α) := fun c => (c, a)
def Rd.bind (r : (Cu → Cu × α)) (f : α → (Cu → Cu × β)) : (Cu → Cu × β) := fun c => f (r c).2 (r c).1
def Rd.byte : (Cu → Cu × Int) := fun c => (c.byteS, c.byteV)
def Rd.need (ok : Bool) (f : Int) : (Cu → Cu × Unit) := fun c => (c.need ok f, ())
def Rd.bytes (n : Int) : (Cu → Cu × (List Int)) := fun c => (c.bytesS n, c.bytesV n)
structure Cl (r : (Cu → Cu × α)) : Prop where
  dead : ∀ c : Cu, c.e ≠ 0 → (r c).1.e = c.e
  ok : ∀ xs : List Int, (r (cu xs)).1.e = 0 → ∃ u t, xs = u ++ t ∧ (∀ t', r (cu (u ++ t')) = (cu t', (r (cu xs)).2)) ∧ ∀ k, k < u.length → (r (cu (u.take k))).1.e = 2
theorem Cl.ret (a : α) : Cl (Rd.ret a) := ⟨fun _ _ => rfl, fun xs _ => ⟨[], xs, rfl, fun _ => rfl, fun k hk => absurd hk (Nat.not_lt_zero k)⟩⟩
theorem Cl.need (ok : Bool) (f : Int) : Cl (Rd.need ok f) := by
  refine ⟨fun c h => by show (c.need ok f).e = c.e; rw [need_dead h], fun xs h => ⟨[], xs, rfl, fun t => ?_, fun k hk => absurd hk (Nat.not_lt_zero k)⟩⟩
  have e := need_ok' (xs := xs) h
  show ((cu t).need ok f, ()) = _
  cases ok with
  | true => rw [need_true]
  | false =>
    have hf : f = 0 := by
      have h : ((cu xs).need false f).e = 0 := h
      unfold Cu.need cu at h
      simpa using h
    subst hf
    first | rfl | done
end
def Dd {α : Type} (r : (Cu → Cu × α)) : Prop := ∀ c : Cu, c.e ≠ 0 → (r c).1.e = c.e
section
variable {α β : Type} {f : α → (Cu → Cu × β)}
theorem Dd.bind {r : (Cu → Cu × α)} (hr : Dd r) (hf : ∀ a, Dd (f a)) : Dd (Rd.bind r f) := fun c h => by
  have h1 := hr c h
  show (f (r c).2 (r c).1).1.e = c.e
  rw [hf _ _ (by rw [h1]; exact h), h1]
theorem Dd.ite {c : Prop} [Decidable c] {r s : (Cu → Cu × α)} (hr : Dd r) (hs : Dd s) : Dd (if c then r else s) := by
  split
  · exact hr
  · exact hs
theorem need_inv {f : Unit → (Cu → Cu × β)} {l : List Int} {ok : Bool} {e : Int} (he : e ≠ 0) (hf : ∀ a, Dd (f a)) (h : (Rd.bind (Rd.need ok e) f (cu l)).1.e = 0) : ok = true ∧ Rd.bind (Rd.need ok e) f (cu l) = f () (cu l) := by
  have h : (f () ((cu l).need ok e)).1.e = 0 := h
  have h1 : ((cu l).need ok e).e = 0 := by
    by_cases h1 : ((cu l).need ok e).e = 0
    · exact h1
    · rw [hf _ _ h1] at h; exact h
  obtain ⟨_, h2, h3⟩ := need_ok he h1
  refine ⟨h2, ?_⟩
  show f () ((cu l).need ok e) = _
  rw [h3]
theorem need_run (f : Unit → (Cu → Cu × β)) {ok : Bool} (h : ok = true) (e : Int) (c : Cu) : Rd.bind (Rd.need ok e) f c = f () c := by
  show f () (c.need ok e) = _
  rw [h, need_true]
theorem Dd.need (ok : Bool) (e : Int) : Dd (Rd.need ok e) := (Cl.need ok e).dead
theorem Dd.ret (a : α) : Dd (Rd.ret a) := (Cl.ret a).dead
end
def Rd.words (n : Int) : (Cu → Cu × (List Int)) := fun c => (c.wordsS n, c.wordsV n)
theorem wordsS_dead {c : Cu} (h : c.e ≠ 0) (n : Int) : (c.wordsS n).e = c.e := by
  unfold Cu.wordsS
  split
  · rfl
  · simp only [Cu.fail, fstE]
    rw [if_neg h]
theorem words_ok {c : Cu} {n : Int} (h : (c.wordsS n).e = 0) : c.e = 0 ∧ c.s = false ∧ 0 ≤ n ∧ 2 * n ≤ (c.xs.length : Int) ∧ c.wordsS n = cu (c.xs.drop (2 * n.toNat)) ∧ c.wordsV n = Take.words (c.xs.take (2 * n.toNat)) := by
  have he : c.e = 0 := by
    by_cases he : c.e = 0
    · exact he
    · rw [wordsS_dead he] at h; exact h
  by_cases hk : c.okW n = true
  · obtain ⟨h1, h2, h3⟩ := (Cu.okW_iff c n).1 hk
    refine ⟨he, h1, h2, h3, ?_, ?_⟩
    · unfold Cu.wordsS cu; rw [if_pos hk, h1, he]
    · unfold Cu.wordsV; rw [if_pos hk]
  · exfalso
    unfold Cu.wordsS at h
    rw [if_neg hk] at h
    simp only [Cu.fail, fstE] at h
    rw [if_pos he] at h
    exact absurd h (by decide)
theorem okW_cu (l : List Int) (n : Nat) (h : 2 * n ≤ l.length) : (cu l).okW (n : Int) = true := by
  rw [Cu.okW_iff]
  exact ⟨rfl, by omega, by show 2 * (n : Int) ≤ (l.length : Int); omega⟩
theorem wordsV_app (u t : List Int) {n : Int} (hn : 2 * n = (u.length : Int)) : (cu (u ++ t)).wordsV n = Take.words u := by
  obtain ⟨m, rfl⟩ := Int.eq_ofNat_of_zero_le (show 0 ≤ n by omega)
  unfold Cu.wordsV
  rw [if_pos (okW_cu _ _ (by rw [List.length_append]; omega))]
  show Take.words ((u ++ t).take (2 * (m : Int).toNat)) = _
  rw [show 2 * (m : Int).toNat = u.length by omega]
  simp
theorem wordsS_app (u t : List Int) {n : Int} (hn : 2 * n = (u.length : Int)) : (cu (u ++ t)).wordsS n = cu t := by
  obtain ⟨m, rfl⟩ := Int.eq_ofNat_of_zero_le (show 0 ≤ n by omega)
  unfold Cu.wordsS
  rw [if_pos (okW_cu _ _ (by rw [List.length_append]; omega))]
  show (⟨(u ++ t).drop (2 * (m : Int).toNat), _, _⟩ : Cu) = _
  rw [show 2 * (m : Int).toNat = u.length by omega]
  simp [cu]
theorem wordsS_cut {l : List Int} {n : Int} (h : (l.length : Int) < 2 * n ∨ n < 0) : ((cu l).wordsS n).e = 2 := by
  unfold Cu.wordsS
  have hk : ¬ (cu l).okW n = true := fun hk => by
    obtain ⟨_, h2, h3⟩ := (Cu.okW_iff _ _).1 hk
    have h3 : 2 * n ≤ (l.length : Int) := h3
    omega
  rw [if_neg hk]
  rfl
theorem Cl.words (n : Int) : Cl (Rd.words n) := by
  refine ⟨fun c h => wordsS_dead h n, fun xs h => ?_⟩
  obtain ⟨h1, h2, h3, h4, h5, h6⟩ := words_ok (c := cu xs) h
  have h4 : 2 * n ≤ (xs.length : Int) := h4
  have hl : 2 * n = ((xs.take (2 * n.toNat)).length : Int) := by rw [List.length_take]; omega
  refine ⟨xs.take (2 * n.toNat), xs.drop (2 * n.toNat), (List.take_append_drop _ _).symm, fun t => ?_, fun k hk => ?_⟩
  · show ((cu (xs.take (2 * n.toNat) ++ t)).wordsS n, (cu (xs.take (2 * n.toNat) ++ t)).wordsV n) = (cu t, (cu xs).wordsV n)
    rw [wordsS_app _ _ hl, wordsV_app _ _ hl, h6]
    rfl
  · refine wordsS_cut (.inl ?_)
    rw [List.length_take]
    omega
theorem words_inv {β : Type} {f : List Int → (Cu → Cu × β)} {l : List Int} {n : Int} (hf : ∀ a, Dd (f a)) (h : (Rd.bind (Rd.words n) f (cu l)).1.e = 0) : 0 ≤ n ∧ 2 * n ≤ (l.length : Int) ∧ Rd.bind (Rd.words n) f (cu l) = f (Take.words (l.take (2 * n.toNat))) (cu (l.drop (2 * n.toNat))) := by
  have h : (f ((cu l).wordsV n) ((cu l).wordsS n)).1.e = 0 := h
  have h1 : ((cu l).wordsS n).e = 0 := by
    by_cases h1 : ((cu l).wordsS n).e = 0
    · exact h1
    · rw [hf _ _ h1] at h; exact h
  obtain ⟨_, _, h2, h3, h4, h5⟩ := words_ok h1
  refine ⟨h2, h3, ?_⟩
  show f ((cu l).wordsV n) ((cu l).wordsS n) = _
  rw [h4, h5]
  rfl
theorem words_run {β : Type} (f : List Int → (Cu → Cu × β)) (u t : List Int) {n : Int} (hn : 2 * n = (u.length : Int)) : Rd.bind (Rd.words n) f (cu (u ++ t)) = f (Take.words u) (cu t) := by
  show f ((cu (u ++ t)).wordsV n) ((cu (u ++ t)).wordsS n) = _
  rw [wordsV_app _ _ hn, wordsS_app _ _ hn]
theorem Dd.words (n : Int) : Dd (Rd.words n) := (Cl.words n).dead
def Rd.word : (Cu → Cu × Int) := fun c => (c.wordS, c.wordV)
theorem two_words (a b : Int) : (Take.words [a, b]).headD 0 = a * 256 + b := by
  simp [Take.words, Take.pre, Take.wordAt, List.range_succ]
theorem wordV_cons (a b : Int) (t : List Int) : (cu (a :: b :: t)).wordV = a * 256 + b := by
  show ((cu ([a, b] ++ t)).wordsV 1).headD 0 = _
  rw [wordsV_app [a, b] t (n := 1) (by simp)]
  exact two_words a b
theorem wordS_cons (a b : Int) (t : List Int) : (cu (a :: b :: t)).wordS = cu t := wordsS_app [a, b] t (n := 1) (by simp)
theorem word_ok {c : Cu} (h : c.wordS.e = 0) : c.e = 0 ∧ c.s = false ∧ ∃ a b t, c.xs = a :: b :: t ∧ c.wordS = cu t ∧ c.wordV = a * 256 + b := by
  obtain ⟨h1, h2, h3, h4, h5, h6⟩ := words_ok (n := 1) h
  cases hx : c.xs with
  | nil => rw [hx] at h4; simp at h4
  | cons a t =>
  cases ht : t with
  | nil => rw [hx, ht] at h4; simp at h4
  | cons b r =>
    refine ⟨h1, h2, a, b, r, rfl, ?_, ?_⟩
    · show c.wordsS 1 = _
      rw [h5, hx, ht]; rfl
    · show (c.wordsV 1).headD 0 = _
      rw [h6, hx, ht]; exact two_words a b
theorem Cl.word : Cl Rd.word := by
  refine ⟨fun c h => wordsS_dead h 1, fun xs h => ?_⟩
  obtain ⟨h1, h2, a, b, t, h3, h4, h5⟩ := word_ok (c := cu xs) h
  have h3 : xs = a :: b :: t := h3
  refine ⟨[a, b], t, h3, fun t' => ?_, fun k hk => ?_⟩
  · show ((cu (a :: b :: t')).wordS, (cu (a :: b :: t')).wordV) = (cu t', (cu xs).wordV)
    rw [wordS_cons, wordV_cons, h5]
  · refine wordsS_cut (n := 1) (.inl ?_)
    rw [List.length_take]
    simp only [List.length_cons, List.length_nil] at hk ⊢
    omega
theorem Dd.word : Dd Rd.word := Cl.word.dead
theorem word_inv {β : Type} {f : Int → (Cu → Cu × β)} {l : List Int} (hf : ∀ a, Dd (f a)) (h : (Rd.bind Rd.word f (cu l)).1.e = 0) : ∃ a b t, l = a :: b :: t ∧ Rd.bind Rd.word f (cu l) = f (a * 256 + b) (cu t) := by
  have h : (f (cu l).wordV (cu l).wordS).1.e = 0 := h
  have h1 : (cu l).wordS.e = 0 := by
    by_cases h1 : (cu l).wordS.e = 0
    · exact h1
    · rw [hf _ _ h1] at h; exact h
  obtain ⟨_, _, a, b, t, h2, h3, h4⟩ := word_ok h1
  refine ⟨a, b, t, h2, ?_⟩
  show f (cu l).wordV (cu l).wordS = _
  rw [h3, h4]
theorem word_run {β : Type} (f : Int → (Cu → Cu × β)) {v : Int} (hv : 0 ≤ v ∧ v < 65536) (t : List Int) : Rd.bind Rd.word f (cu ((v / 256) % 256 :: v % 256 :: t)) = f v (cu t) := by
  show f (cu ((v / 256) % 256 :: v % 256 :: t)).wordV (cu ((v / 256) % 256 :: v % 256 :: t)).wordS = _
  rw [wordV_cons, wordS_cons, show v / 256 % 256 * 256 + v % 256 = v by omega]
end Go.Proofs.Ytalaochocmcbcaa.Cu
end
section
namespace Go.Proofs.Ytalaochocmcbcaa.Code
open Go.RowKit Go.Maps Go.Proofs.YtalaochocmcbcaaW.PrintWords Go.Proofs.YtalaochocmcbcaaW.PrintLast Go.Proofs.YtalaochocmcbcaaW.PrintMore
def setD (q : IntKind) (l : List Int) : DataW Unit := l.foldl (fun D x => D.put (.int q x) (.lit (.bool true))) (.map [])
theorem setD_snoc (q : IntKind) (l : List Int) (x : Int) : setD q (l ++ [x]) = (setD q l).put (.int q x) (.lit (.bool true)) := by unfold setD; rw [List.foldl_append]; rfl
theorem fold_at (q : IntKind) (c : Int) (l : List Int) : ∀ (D : DataW Unit) (b : Bool), IsMap D → D.atKey (.int q c) (.lit (.bool false)) = .lit (.bool b) → (l.foldl (fun D x => D.put (.int q x) (.lit (.bool true))) D).atKey (.int q c) (.lit (.bool false)) = .lit (.bool (b || l.contains c)) := by
  induction l with
  | nil => intro D b _ h; simpa using h
  | cons x l ih =>
    intro D b hD h
    rw [List.foldl_cons]
    by_cases e : x = c
    · subst e
      rw [ih _ true (hD.put _ _) (atKey_put_same hD (by trivial) _ _)]
      simp
    · rw [ih _ b (hD.put _ _) ((atKey_put_other (fun h => e (by injection h with _ h; exact h.symm)) _ _).trans h)]
      have : (c == x) = false := by rw [beq_eq_false_iff_ne]; exact fun h => e h.symm
      have h2 : ¬ c = x := fun h => e h.symm
      simp [h2]
theorem setD_at (q : IntKind) (l : List Int) (c : Int) : (setD q l).atKey (.int q c) (.lit (.bool false)) = .lit (.bool (l.contains c)) := by
  unfold setD
  rw [fold_at q c l _ false ⟨[], rfl⟩ rfl, Bool.false_or]
theorem plainElem_bool_inv {P : Program} {e : TypeId} (he : P.underlying e = some .bool) {v : Value} {z : DataW Unit × List MemPlace} (h : plainElem P e v = some z) : ∃ b, v = .bool b ∧ z = (.lit (.bool b), []) := by
  unfold plainElem at h
  rw [he] at h
  cases v <;> simp_all
theorem lawu16 : Keyed Try.prog 24 := int_keyed Try.underlying24
theorem zeroBu16 (w : World) : (zeroValue 4).run Try.prog w = .ok (.bool false) w := by kernel_rfl
theorem look_u16 {w : World} {b n : Nat} {l : List Int} (h : w.ownsMap Try.prog 24 (plainElem Try.prog 4) b n (setD .u16 l)) (c : Int) (hc : (Lit.int .u16 c).wf = true) :
    (Instr.lookup 84 (.map (some b)) (.int .u16 c) false).run Try.prog w = .ok (.bool (l.contains c)) w := by
  obtain ⟨vv, ps, hrun, hRv⟩ := h.lookup lawu16 Try.underlying84 (zeroBu16 _) (plainElem_bool Try.underlying4 false) (keyOf_int_mk Try.underlying24 hc)
  rw [setD_at] at hRv
  obtain ⟨bb, rfl, hbb⟩ := plainElem_bool_inv Try.underlying4 hRv
  simp only [Prod.mk.injEq, DataW.lit.injEq, Lit.bool.injEq] at hbb
  rw [hbb.1]
  exact hrun
theorem set_u16 (A : Option Addr) (c : Nat) (l : List Int) (w : World) (hr : Kd.C (Kd.int .u16) w A l.length l) (hs : l.length ≤ 1000) (hwf : ∀ x ∈ l, (Lit.int .u16 x).wf = true) :
    Calls Try.prog 58 #[.slice A l.length c] w fun e w' => ∃ b, e = .returned (.map (some b)) ∧ w'.ownsMap Try.prog 24 (plainElem Try.prog 4) b l.length (setD .u16 l) ∧ Below w.heap.size w w' := by
  have HR := Aside0.mk hr
  clear hr
  have hmm := @run_makeMap Try.prog
  go_enter Try.func58, Try.ntmps58
  go_wp2
  go_loopw [9] (fun i wr => ∃ k : Nat, k ≤ l.length ∧ i = .int .i64 k ∧ wr.ownsMap Try.prog 24 (plainElem Try.prog 4) w.heap.size k (setD .u16 (l.take k)) ∧ Below w.heap.size w wr)
    (fun i _ => l.length - (intOf i).toNat)
  case atStart => exact ⟨0, Nat.zero_le _, rfl, World.ownsMap_made _ _ _ _, (Below.refl _ _).alloc (Nat.le_refl _) _⟩
  case round =>
    obtain ⟨k, hk, rfl, hown, hnx⟩ := hrel
    by_cases hlt : k < l.length
    · obtain ⟨ad, rfl, hx⟩ := Kd.at_int HR.out (k : Int) (by omega) (by omega)
      have hcx := (hnx.cell (World.block_lt_of_cell? w _ hx)).trans hx
      rw [Int.toNat_natCast] at hcx
      have hw2 : (Lit.int .u16 (rd l (k : Int))).wf = true := by
        unfold rd
        rw [Int.toNat_natCast, List.getD_eq_getElem?_getD, List.getElem?_eq_getElem hlt]
        exact hwf _ (List.getElem_mem hlt)
      have hkey : keyOf Try.prog 24 (.int .u16 (rd l (k : Int))) = some (.int .u16 (rd l (k : Int))) := keyOf_int_mk Try.underlying24 hw2
      have hsn : (setD .u16 (l.take k)).put (.int .u16 (rd l (k : Int))) (.lit (.bool true)) = setD .u16 (l.take (k + 1)) := by
        rw [← setD_snoc]
        congr 1
        unfold rd
        rw [Int.toNat_natCast, List.getD_eq_getElem?_getD, List.getElem?_eq_getElem hlt, List.take_succ_eq_append_getElem hlt]; rfl
      have HSN := Aside0.mk hsn
      clear hsn hx hw2
      go_wp2_with (first
        | (at_mapUpdate; refine wpList_mapUpdate_own _ rfl _ _ _ 84 rfl 24 4 lawu16 Try.underlying84 _ w.heap.size k _ rfl hown (by unfold maxLen; omega) _ _ _ rfl rfl hkey _ [] (plainElem_bool Try.underlying4 _) ?_; intro w1 hown1 hgrow1)
        | go_in)
      go_roundw
      case rel => exact ⟨k + 1, by omega, by go_num, HSN.out ▸ hown1, hnx.grown hgrow1 hnx.size (fun j hj => by cases hj; exact Nat.le_refl _)⟩
      case measure => simp [intOf]; omega
    · go_wp2
      go_ret
      have : k = l.length := by omega
      subst this
      rw [List.take_length] at hown
      exact ⟨_, rfl, hown, hnx⟩
def bitsubL : List Int := [0, 1, 2, 3, 4, 10, 11, 12, 13, 14, 15, 16, 17, 18, 20]
theorem bitsub_any (c : Int) (w : World) (hc : (Lit.int .u16 c).wf = true) :
    Calls Try.prog 41 #[.int .u16 c] w fun e w' => e = .returned (.bool (bitsubL.contains c)) ∧ Below w.heap.size w w' := by
  have HW := Aside0.mk hc
  clear hc
  go_enter Try.func41, Try.ntmps41
  go_wp2_with (first
    | ((with_reducible refine gate_dst (N := 3) rfl ?_); (try (refine gate_guard (by rfl) ?_; dsimp only)); refine Kd.R_lit (Kd.int .u16) (w0 := w) w.heap.size 24 ?hg (N := 3) ?hd (xs := bitsubL) (inner := [.int .u16 0, .int .u16 1, .int .u16 2, .int .u16 3, .int .u16 4, .int .u16 10, .int .u16 11, .int .u16 12, .int .u16 13, .int .u16 14, .int .u16 15, .int .u16 16, .int .u16 17, .int .u16 18, .int .u16 20]) (ok := fun _ => True) (okp := fun _ => True) ?hr ?hp (fun _ hk => hk) trivial (Below.refl _ _) (Nat.le_refl _) (by decide) ?_; (case hd => rfl); (case hg => rfl); (case hr => first | (go_simp; done) | (go_simp; rfl)); (case hp => exact (Reps.one (show Kd.M (Kd.int .u16) _ _ _ 0 [.int .u16 0] from rfl) (Reps.one (show Kd.M (Kd.int .u16) _ _ _ 1 [.int .u16 1] from rfl) (Reps.one (show Kd.M (Kd.int .u16) _ _ _ 2 [.int .u16 2] from rfl) (Reps.one (show Kd.M (Kd.int .u16) _ _ _ 3 [.int .u16 3] from rfl) (Reps.one (show Kd.M (Kd.int .u16) _ _ _ 4 [.int .u16 4] from rfl) (Reps.one (show Kd.M (Kd.int .u16) _ _ _ 10 [.int .u16 10] from rfl) (Reps.one (show Kd.M (Kd.int .u16) _ _ _ 11 [.int .u16 11] from rfl) (Reps.one (show Kd.M (Kd.int .u16) _ _ _ 12 [.int .u16 12] from rfl) (Reps.one (show Kd.M (Kd.int .u16) _ _ _ 13 [.int .u16 13] from rfl) (Reps.one (show Kd.M (Kd.int .u16) _ _ _ 14 [.int .u16 14] from rfl) (Reps.one (show Kd.M (Kd.int .u16) _ _ _ 15 [.int .u16 15] from rfl) (Reps.one (show Kd.M (Kd.int .u16) _ _ _ 16 [.int .u16 16] from rfl) (Reps.one (show Kd.M (Kd.int .u16) _ _ _ 17 [.int .u16 17] from rfl) (Reps.one (show Kd.M (Kd.int .u16) _ _ _ 18 [.int .u16 18] from rfl) (Reps.one (show Kd.M (Kd.int .u16) _ _ _ 20 [.int .u16 20] from rfl) (Reps.none _ _))))))))))))))))); intro v1 w1 ho hb hg_ hnew_; clear hg_ hnew_; have HO := Aside0.mk ho; have HB := Aside0.mk hb; clear ho hb; obtain ⟨Ao, co, eo⟩ := Kd.R_slice HO.out; subst eo)
    | (go_at_call 58; (with_reducible refine (set_u16 Ao co bitsubL _ (Kd.R_reads' HO.out).2.2 (by decide) (by decide)).mono ?_); rintro e w2 ⟨b, rfl, hown, hb2⟩; have HB2 := Aside0.mk (below_step HB.out hb2); have hrun := look_u16 hown c HW.out; clear hb2 hown)
    | go_in)
  go_ret
  exact ⟨by first | rfl | (simp; done), HB2.out⟩
end Go.Proofs.Ytalaochocmcbcaa.Code
end
